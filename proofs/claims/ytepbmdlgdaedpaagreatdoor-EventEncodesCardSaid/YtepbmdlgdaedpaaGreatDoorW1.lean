/- An event in new memory, marks behind its lists. -/
import Derived.Test.YtepbmdlgdaedpaaGreatDoorR3
/- An event in new memory, marks behind its lists. -/
namespace Go.Proofs.YtepbmdlgdaedpaaGreatDoor
open Go.RowKit Go.Dk
theorem CW:aO Tryz.prog 17:=⟨_,Tryz.func17,af,af⟩
theorem vg:aO Tryz.prog 47:=⟨_,Tryz.func47,af,af⟩
theorem zO:aO Tryz.prog 126:=⟨_,Tryz.func126,af,af⟩
theorem EP {i m n:Nat} (h:(ay .lss ((i:Nat):Int) (m:Int) && ay .leq ((n:Nat):Int) 50000)=true):i<m∧n≤50000:=by
 simp [ay] at h
 omega
theorem EO {l:List VA} {i n:Nat} {va:VA} (h:∀ a∈l.take i,a.v.s.length≤n) (hp:l[i]? = some va):∀ a∈l.take (i+1),a.v.s.length≤n+va.v.s.length:=fun a ha=>by
 rw [List.take_add_one,hp] at ha
 rcases List.mem_append.1 ha with ha | ha
 ·exact Nat.le_trans (h a ha) (Nat.le_add_right _ _)
 ·rw [Option.toList_some,List.mem_singleton] at ha; subst ha; exact Nat.le_add_left _ _
theorem EQ {ea:EA} {i n:Nat} (h:(ay .lss ((i:Nat):Int) (ea.args.length:Int) && ay .leq ((n:Nat):Int) 50000)=false) (hb:ea.v.v.s.length+ea.args.length≤n) (has:∀ a∈ea.args.take i,a.v.s.length≤n):ay .gtr ((n:Nat):Int) 50000=false→ea.v.v.s.length≤50000∧ea.args.length≤50000∧∀ a∈ea.args,a.v.s.length≤50000:=fun hn=>by
 simp [ay] at h hn
 have hi:ea.args.length≤i:=by omega
 rw [JO hi] at has
 exact ⟨ ag,ag,fun a ha=>Nat.le_trans (has a ha) ag⟩
set_option maxRecDepth 100000 in
set_option maxHeartbeats 8000000 in
theorem Cf {w0:World} {R:List Seg} {G:List Seg} (ea:EA) (w:World) (hV:ea.Ok w0 G) (hvl:ea.v.v.s.length<8796093022000) (hal:ea.args.length<8796093022000) (hsz:∀ a∈ea.args,a.v.s.length<8796093022000) (hG:G⊆R) (hA:Hp w0 R w):Calls Tryz.prog 14 #[.agg ea.cells.toArray] w fun e w'=>∃ b:Bool,e= .returned (.bool b)∧(b=false→ea.v.v.s.length≤50000∧ea.args.length≤50000∧∀ a∈ea.args,a.v.s.length≤50000)∧Hp w0 R w':=by
 have he32:ea.eff.length=32:=hV.i.2.2.2.2.2
 refine aN Tryz.func14 O Tryz.ntmps14 ai (fun a hF=>?_)
 refine wp_seq_k fun K1 hK1=>wp_region_lit ?_
 refine aI O (fun K hK=>dE (cs:=ea.cells) hF O ae rfl hA O (fun b1 w2 a hb1 hF hA3=>hK _ _ ?_))
 refine vR hF<|vX O<|vE hK1<|wT fun K2 hK2=>vV O (yf 6 O JQ O kZ O)<|vV O (yf 9 O JP O kE O)<|vV O (aV O hA3.q O 0 O O kG)<|vV O (aT O JD O O)<|vV O (yf 10 rfl JQ O qU O)<|vV O (aV O hA3.q O 0 O O ry)<|vV O (aT O JS O O)<|vV O (bK O O O (show IntKind.i64.wrap ((ea.v.v.s.length:Int)+(ea.args.length:Int))=((ea.v.v.s.length+ea.args.length:Nat):Int) by rw [JF _ ag]; omega)) fun a hF=>?_
 refine vR hF<|vX O<|vE hK2<|wQ fun K3 hK3=>wT fun K4 hK4=>vX O<|vE hK4<|wBk fun a hF=>?_
 refine bz (G:=Nat) (fun i a x=>∃ (n:Nat),i≤ea.args.length∧n≤20000000000000∧ea.v.v.s.length+ea.args.length≤n∧(∀ a∈ea.args.take i,a.v.s.length≤n)∧Fr 35 [(3,.int .i64 ((n:Nat):Int)),(4,.int .i64 ((i:Nat):Int)),(1,.pointer (some ⟨b1,0,none⟩))] a∧Hp w0 ([row b1 31 ([.int .i64 ea.op,.int .i64 ea.num,.int .i64 ea.clk,ak ea.typ,ak ea.cas,ak ea.nam,.int .i64 ea.v.v.k,.int .i64 ea.v.v.n,ak ea.v.v.t,.slice ea.v.sA ea.v.v.s.length ea.v.sC,.slice ea.aA ea.args.length ea.aC,.slice ea.bA ea.src.length ea.bC]++dc ea.eff)]::R) x) (fun i=>ea.args.length-i) 0 (⟨ea.v.v.s.length+ea.args.length,JE _,ag,(JH _),(fun _ h=>absurd h (List.not_mem_nil)),hF.keep [3,4,1] rfl,hA3⟩) ?_
 clear hF
 rintro i a w5 ⟨n,hi,hn,hb,has,hF,hA4⟩
 apply wp_seq_k; intro K5 hK5
 refine wS hF fun K6 hK6=>vX O<|vV O (yf 10 rfl JQ O qU O)<|vV O (aV O hA4.q O 0 O O ry)<|vV O (aT O JS O O)<|vV O (aG O O O O O)<|vX O fun a hF=>?_
 refine aX (l2:=?lA1) hF [(21,.bool ((ay .lss (((i:Nat):Int)) (ea.args.length)) && (ay .leq (((n:Nat):Int)) (50000)))),(1,.pointer (some ⟨b1,0,none⟩)),(3,.int .i64 ((n:Nat):Int)),(4,.int .i64 ((i:Nat):Int))] (fun hJ1=>?elA1) (fun a hF=>?flA1)
 case elA1 =>
  rcases tf (ay .lss (((i:Nat):Int)) (ea.args.length)) with hg1 | hg1
  ·refine au hF O O O O O (ax hg1) ae (fun a hF=>?_)
   refine au hF O O O O O (ax hg1) ae (fun a hF=>?_)
   refine vR hF<|vV O (aP hg1 rfl rfl rfl) fun a hF=>?_
   exact hJ1 _ ((hF.keep [21,1,3,4] (F':=[(21,_),(1,_),(3,_),(4,_)]) O).bool (by rw [hg1]; rfl))
  ·refine aB hF O O O O (aj hg1) ae _ (aZ O O) (fun a hF=>?_)
   refine aB hF O O O O (aj hg1) ae _ (aG O O O O O) (fun a hF=>?_)
   refine vR hF<|vV O (aW hg1 rfl rfl rfl) fun a hF=>?_
   exact hJ1 _ ((hF.keep [21,1,3,4] (F':=[(21,_),(1,_),(3,_),(4,_)]) O).bool (by rw [hg1]; rfl))
 refine aJ<|hK6 _ _ ?_
 rcases tf ((ay .lss (((i:Nat):Int)) (ea.args.length)) && (ay .leq (((n:Nat):Int)) (50000))) with hc | hc
 ·refine az hF O hc ?_
  apply wp_exit
  refine hK3 _ _ ?_
  refine wS hF fun K7 hK7=>vX O<|vV O (aG O O O O O)<|vX O<|vE hK7 fun a hF=>?_
  apply wp_ret
  refine aK hF Tryz.results14 O ?_
  have hA6:Hp w0 (R) w5:=hpS 1 [] [0] hA4 rfl
  exact ⟨_,rfl,EQ hc hb has,hA6⟩
 ·refine aF hF O hc ?_
  obtain ⟨hlt,hn5⟩:=EP hc
  obtain ⟨va,hp⟩:∃ q,ea.args[i]? = some q:=⟨_,List.getElem?_eq_getElem hlt⟩
  obtain ⟨hat,hle⟩:((jA ea.args).drop (i*4)).take 4=va.cells∧i*4+4≤(jA ea.args).length:=Go.Dk.flat_at (z:=4) (Ws:=ea.args.map VA.cells) (V:=va.cells) (i:=i) (fun V hV=>by obtain ⟨u,_,rfl⟩:=List.mem_map.1 hV; rfl) (by rw [List.getElem?_map,hp]; rfl)
  obtain ⟨b,o,hsA,hc⟩:=hV.rc.ne (i:=i*4) ag
  have hva:=hV.args _ (List.mem_of_getElem? hp)
  have hvs:=hsz va (List.mem_of_getElem? hp)
  apply wp_skip
  refine hK5 _ _ ?_
  apply wp_seq_k; intro K8 hK8
  apply wp_block
  refine wp_region_lit ?_
  refine vR hF<|vX O<|vV O (yf 10 rfl JQ O qU O)<|vV O (aV (u:= .slice (some ⟨b,o,none⟩) ea.args.length ea.aC) rfl hA4.q O 0 O (by rw [← hsA]; rfl) ry) fun a hF=>?_
  refine vR hF<|vX O<|vV O (bI O JS kZ O O i rfl hlt rfl)<|vV O (kD O JP O kE ae rfl rfl)<|vV O (dN (u:= .slice va.sA va.v.s.length va.sC) rfl (Hq.sub hA4.q (List.Subset.trans hG (bD (dD)))) O hc (i*4+3) ag rfl (kK (k:=3) hat (by show 3<4; decide)) kG) fun a hF=>?_
  refine vR hF<|vV O (aT O JD O O)<|vV O (bK O O O (show IntKind.i64.wrap ((n:Int)+(va.v.s.length:Int))=((n+va.v.s.length:Nat):Int) by rw [JF _ ag]; omega)) fun a hF=>?_
  refine vR hF<|vX O fun a hF=>aJ<|hK8 _ _ ?_
  refine wp_region_lit ?_
  refine vR hF<|vX O<|vV O (bK O O O (JF _ ag))<|vX O fun a hF=>?_
  refine aJ ?_
  exact ⟨i+1,ag,_,ag,ag,ag,EO has hp,hF.keep [3,4,1] rfl,hA4⟩
abbrev mkS:List UInt8:=[109,97,114,107]
abbrev markVA:VA:=⟨⟨-77,0,[],[]⟩,none,0⟩
abbrev zVA:VA:=⟨⟨0,0,[],[]⟩,none,0⟩
theorem Ic (w:World):(Instr.build 25 #[(0,.int .i64 (-77))]).run Tryz.prog w= .ok (.agg markVA.cells.toArray) w:=af
set_option maxRecDepth 100000 in
set_option maxHeartbeats 8000000 in
theorem uH {w0:World} {R:List Seg} (w:World) (hA:Hp w0 R w):Calls Tryz.prog 126 #[] w fun e w'=>e= .returned (.agg markVA.cells.toArray)∧Hp w0 R w':=by
 refine aN Tryz.func126 O Tryz.ntmps126 ai (fun a hF=>?_)
 refine wp_seq_k fun K1 hK1=>wp_region_lit ?_
 refine aI O (fun K hK=>df hF O ae rfl hA (xh) (fun b1 w2 a hb1 hF hA3=>hK _ _ ?_))
 refine aJ<|hK1 _ _ ?_
 refine wS hF fun K2 hK2=>vV O (fJ (qs := #[(0,.int .i64 (-77))]) O O Ic) fun a hF=>?_
 refine aI O (fun K hK=>bu (new:=markVA.cells) hF O O hA3 O O 0 O O (qM markVA) kZ (fun w4 hA5=>hK _ _ ?_))
 replace hA5:Hp w0 ([row b1 25 markVA.cells]::R) w4:=hA5
 refine aJ<|hK2 _ _ ?_
 apply wp_ret
 refine qL hF Tryz.results126 hA5.q O 0 O (by exact Ef) ?_
 have hA6:Hp w0 (R) w4:=hpS 1 [] [0] hA5 rfl
 exact ⟨rfl,hA6⟩
theorem IY {z:Array Value} {zs:List Value} (hz:z.toList=zs) (hs:0<zs.length) (m:Nat):(madeCells z (m*zs.length)).toList=(List.replicate m zs).flatten:=by
 have hsz:z.size=zs.length:=by rw [← hz,Array.length_toList]
 have hl:(List.replicate m zs).flatten.length=m*zs.length:=by rw [Go.Dk.flat_len (z:=zs.length) (fun W hW=>by rw [List.eq_of_mem_replicate hW]),List.length_replicate]
 apply List.ext_getElem?
 intro j
 by_cases hj:j<m*zs.length
 ·have hi:j/zs.length<m:=by rw [Nat.div_lt_iff_lt_mul hs]; exact hj
  obtain ⟨h1,h2⟩:=Go.Dk.flat_at (z:=zs.length) (Ws:=List.replicate m zs) (V:=zs) (i:=j/zs.length) (fun W hW=>by rw [List.eq_of_mem_replicate hW]) (by rw [List.getElem?_replicate,if_pos hi])
  have h3:=kK (k:=j%zs.length) h1 (Nat.mod_lt _ hs)
  rw [Nat.mul_comm,Nat.div_add_mod] at h3
  rw [h3]
  have h4:j%z.size<z.size:=by rw [hsz]; exact Nat.mod_lt _ hs
  have h5:(madeCells z (m*zs.length)).toList[j]? = some (z[j%z.size]!):=by
   rw [Array.getElem?_toList]
   simp only [madeCells]
   rw [Array.getElem?_map,Array.getElem?_range]
   simp [hj]
  have h6:zs[j%zs.length]? = some (z[j%z.size]'h4):=by
   subst hz
   rw [← hsz,Array.getElem?_toList]
   exact Array.getElem?_eq_getElem h4
  rw [h5,getElem!_pos z _ h4,h6]
 ·rw [List.getElem?_eq_none (by simp [size_madeCells]; omega),List.getElem?_eq_none (by rw [hl]; omega)]
theorem BH {P:Program} {n:Nat} {F:List (Nat × Value)} {a:Act} {o:Oper} {d:Nat} {t e:TypeId} {x y:Operand} {w0:World} {S:List Seg} {w:World} {K:Act→World→Prop} {Q:Exit→Act→World→Prop} {bytes:Nat} {zs:List Value} (hF:Fr n F a) (hd:o.dst=some d) (hlt:d<n) (ho:o.op= .makeSlice t x y) (hA:Hp w0 S w) (hu:P.underlying t=some (.slice e))
  (hb:(P.info? e).map (fun i=>(i.zero.map (fun z=>z.cells.toList),i.size,i.bytes))=some (some zs,zs.length,bytes)) (hs:0<zs.length)
  {kl kc:IntKind} {p q:Int} (m:Nat) (hx:ev F x=some (.int kl p)) (hy:ev F y=some (.int kc q)) (hp:p=m) (hq:q=m) (hm:bytes*m≤281474976710656) (hm2:m≤9223372036854775807)
  (h:∀ g w' a',w.heap.size≤g→Fr n ((d,.slice (some ⟨g,0,none⟩) m m)::F) a'→Hp w0 ([row g e (List.replicate m zs).flatten]::S) w'→K a' w'):o.wp P a w K Q:=by
 subst hp hq
 cases hi:P.info? e with
 | none=>simp [hi] at hb
 | some i =>
  rw [hi] at hb
  simp only [Option.map_some,Option.some.injEq,Prod.mk.injEq] at hb
  obtain ⟨hz,hsz,hbb⟩:=hb
  cases hz0:i.zero with
  | none=>simp [hz0] at hz
  | some z =>
   rw [hz0] at hz
   simp only [Option.map_some,Option.some.injEq] at hz
   have hr:=run_make (P:=P) w t e i z hu hi hz0 kl kc m m ag ag (by rw [hbb,← Int.natCast_mul]; exact Int.ofNat_le.2 hm) ag
   have hc:=IY hz hs m
   have h1:=(At.refl w).alloc (madeCells z.cells (m*zs.length)) e
   rw [hc] at h1
   rw [hsz,Int.toNat_natCast] at hr
   unfold Oper.wp execOp
   simp only [ho,hF.ev hx,hF.ev hy,Sem.run_bind,Sem.run_pure,hr,Result.andThen_ok,Oper.upon_value,hd]
   exact h _ _ _ (JH _) (hF.put hlt) (hA.thenNew h1 (uj (JH _)))
theorem Ia:(Tryz.prog.info? 25).map (fun i=>(i.zero.map (fun z=>z.cells.toList),i.size,i.bytes))=some (some zVA.cells,zVA.cells.length,56):=af
theorem ET {j n:Nat} (h:j<n):(List.replicate j markVA++List.replicate (n-j) zVA).set j markVA=List.replicate (j+1) markVA++List.replicate (n-(j+1)) zVA:=by
 obtain ⟨k,rfl⟩:∃ k,n=j+1+k:=⟨n-(j+1),ag⟩
 have e1:j+1+k-j=k+1:=by omega
 have e2:j+1+k-(j+1)=k:=by omega
 rw [e1,e2,List.set_append_right _ _ (by rw [List.length_replicate]; exact JH _),List.length_replicate,Nat.sub_self,List.replicate_succ,List.set_cons_zero,List.replicate_succ']
 simp
theorem GV {us:List VA} {i n:Nat} {vu:VA} (hl:us.length=i) (h:i<n):(us++List.replicate (n-us.length) markVA).set i vu=us++[vu]++List.replicate (n-(us++[vu]).length) markVA:=by
 obtain ⟨k,rfl⟩:∃ k,n=i+1+k:=⟨n-(i+1),ag⟩
 have e1:i+1+k-us.length=k+1:=by omega
 have e2:i+1+k-(us++[vu]).length=k:=by rw [List.length_append,List.length_singleton]; omega
 rw [e1,e2,List.set_append_right _ _ ag,hl,Nat.sub_self,List.replicate_succ,List.set_cons_zero,List.append_assoc]
 rfl
def MOk (w0:World) (M:Seg) (a:VA):Prop:=a.sC=a.v.s.length+80∧Rc w0 [M] a.sA (cel cS (a.v.s++List.replicate 80 mkS))∧a.v.s.length≤50000∧a.v.In
theorem Bz {w0:World} {X:Dk.Item} {M:Seg} {us:List VA} {vu:VA} (h:∀ a∈us,MOk w0 M a) (hv:MOk w0 (([X]:Seg)++M) vu):∀ a∈us++[vu],MOk w0 (([X]:Seg)++M) a:=fun a ha=>by
 rcases List.mem_append.1 ha with ha | ha
 ·obtain ⟨h1,h2,h3⟩:=h a ha
  exact ⟨h1,h2.monoF (by simp),h3⟩
 ·rw [List.mem_singleton.1 ha]; exact hv
structure WE (w0:World) (gS gA gB:Nat) (M:Seg) (u:EA):Prop where
 vA:u.v.sA=some ⟨gS,0,none⟩
 vC:u.v.sC=u.v.v.s.length+80
 aA:u.aA=some ⟨gA,0,none⟩
 aC:u.aC=u.args.length+80
 bA:u.bA=some ⟨gB,0,none⟩
 bC:u.bC=u.src.length+80
 m:∀ a∈u.args,MOk w0 M a
 nS:u.v.v.s.length≤50000
 nA:u.args.length≤50000
 nB:u.src.length≤140737488351232
 i:u.ev.In
abbrev sgS (g:Nat) (u:EA):Seg:=[row g 9 (cel cS (u.v.v.s++List.replicate 80 mkS))]
abbrev sgA (g:Nat) (u:EA):Seg:=[row g 25 (cel VA.cells (u.args++List.replicate 80 markVA))]
abbrev sgB (g:Nat) (u:EA):Seg:=[row g 5 (dc (u.src++List.replicate 80 219))]
theorem wC {α:Type} {C:α→List Value} {w0:World} {R:List Seg} {A:Option Addr} {l m:List α} (h:Rc w0 R A (cel C (l++m))):Rc w0 R A (cel C l):=by
 have:=h.take (cel C l).length
 rwa [fU,List.take_left' rfl] at this
theorem MOk.ok {w0:World} {M:Seg} {a:VA} (h:MOk w0 M a):a.Ok w0 [M]:=⟨by rw [je]; exact wC h.2.1,by have:=h.2.2.1; omega,h.2.2.2⟩
theorem WE.rS {w0:World} {gS gA gB:Nat} {M:Seg} {u:EA} (h:WE w0 gS gA gB M u):Rc w0 [sgS gS u] u.v.sA (cel cS (u.v.v.s++List.replicate 80 mkS)):=by rw [h.vA]; exact Rc.ofRow (i:=0) (off:=0) rfl (by rw [List.drop_zero]; exact List.take_length ..)
theorem WE.rA {w0:World} {gS gA gB:Nat} {M:Seg} {u:EA} (h:WE w0 gS gA gB M u):Rc w0 [sgA gA u] u.aA (cel VA.cells (u.args++List.replicate 80 markVA)):=by rw [h.aA]; exact Rc.ofRow (i:=0) (off:=0) rfl (by rw [List.drop_zero]; exact List.take_length ..)
theorem WE.rB {w0:World} {gS gA gB:Nat} {M:Seg} {u:EA} (h:WE w0 gS gA gB M u):Rd w0 [sgB gB u] u.bA (u.src++List.replicate 80 219):=by rw [h.bA]; exact Rc.ofRow (i:=0) (off:=0) rfl (by rw [List.drop_zero]; exact List.take_length ..)
abbrev WE.sg (gS gA gB:Nat) (M:Seg) (u:EA):List Seg:=[sgS gS u,sgA gA u,sgB gB u,M]
theorem WE.ok {w0:World} {gS gA gB:Nat} {M:Seg} {u:EA} (h:WE w0 gS gA gB M u):u.Ok w0 (WE.sg gS gA gB M u):=by
 have hm:∀ {X:Seg},X∈WE.sg gS gA gB M u→[X]⊆WE.sg gS gA gB M u:=fun hX=>List.cons_subset.2 ⟨hX,List.nil_subset _⟩
 have h1:=h.nS
 have h2:=h.nA
 have h3:=h.nB
 refine ⟨⟨?_,ag,h.i.2.2.2.1⟩,fun a ha=>(h.m a ha).ok.mono (hm (by simp)),(wC h.rA).mono (hm (by simp)),ag,?_,ag,h.i⟩
 ·rw [je]; exact (wC h.rS).mono (hm (by simp))
 ·have:=(Rc.take h.rB u.src.length).mono (hm (by simp:sgB gB u∈WE.sg gS gA gB M u))
  rwa [show (dc (u.src++List.replicate 80 219)).take u.src.length=dc u.src by rw [bT]; exact List.take_left' (aS _)] at this
theorem pz (w0 w:World) (R:List Seg) (B:Option Addr) (l:List UInt8) (c:Nat) (hB:Rc w0 R B (dc l)) (hA:Hp w0 R w) (hl:l.length<140737488354000):Calls Tryz.prog 17 #[.slice B l.length c,.int .u8 219] w fun e w'=>∃ g,e= .returned (.slice (some ⟨g,0,none⟩) (l.length+80) (l.length+80))∧Hp w0 ([row g 5 (dc (l++List.replicate 80 219))]::R) w':=by
 have h:=pq w0 w R B l c 219 (by rw [← mf]; exact hB) (fun _ _=>rfl) rfl hA hl
 rw [← mf] at h
 exact h
set_option maxRecDepth 100000 in
set_option maxHeartbeats 8000000 in
theorem uG {w0:World} {R:List Seg} {G:List Seg} (ea:EA) (w:World) (hV:ea.Ok w0 G) (hvl:ea.v.v.s.length≤50000) (hal:ea.args.length≤50000) (hsz:∀ a∈ea.args,a.v.s.length≤50000) (hbl:ea.src.length≤140737488351232) (hG:G⊆R) (hA:Hp w0 R w):Calls Tryz.prog 67 #[.agg ea.cells.toArray] w fun e w'=>∃ (u:EA) (gS gA gB:Nat) (M:Seg),e= .returned (.agg u.cells.toArray)∧u.ev=ea.ev∧WE w0 gS gA gB M u∧Hp w0 (sgS gS u::sgA gA u::sgB gB u::M::R) w':=by
 have he32:ea.eff.length=32:=hV.i.2.2.2.2.2
 refine aN Tryz.func67 O Tryz.ntmps67 ai (fun a hF=>?_)
 refine wp_seq_k fun K1 hK1=>wp_region_lit ?_
 refine aI O (fun K hK=>dE (cs:=ea.cells) hF O ae rfl hA O (fun b1 w2 a hb1 hF hA3=>hK _ _ ?_))
 refine aI O (fun K hK=>df hF O ae rfl hA3 qA (fun b4 w5 a hb4 hF hA6=>hK _ _ ?_))
 refine aJ<|hK1 _ _ ?_
 apply wp_seq_k; intro K2 hK2
 refine bi 11 [3,11] [0,1,2,4,5,6,7,3,8,9,10,11] _ af af (Hq.drew hA6.q) ?_
 have hA7:=Hl.drew hA6
 refine pR hF<|pW O O (fun _=>yf 6 O JQ O kZ O)<|pW O O (fun _=>yf 9 O JP O kE O)<|pV O O (fun x hx=>aV O hx O 1 O O kG)<|pW O O (fun _=>yf 6 O JQ O kZ O)<|pW O O (fun _=>yf 9 O JP O kE O)<|pV O O (fun x hx=>aV O hx O 1 O O kG)<|pW O O (fun _=>aT O JD O O) fun a hF=>?_
 refine fZ O O O (fun K hK=>aH hF O ae vg rfl rfl ?_)
 with_reducible refine (jP w0 _ ([row b4 31 noEA.cells]::[row b1 31 ([.int .i64 ea.op,.int .i64 ea.num,.int .i64 ea.clk,ak ea.typ,ak ea.cas,ak ea.nam,.int .i64 ea.v.v.k,.int .i64 ea.v.v.n,ak ea.v.v.t,.slice ea.v.sA ea.v.v.s.length ea.v.sC,.slice ea.aA ea.args.length ea.aC,.slice ea.bA ea.src.length ea.bC]++dc ea.eff)]::R) ea.v.sA ea.v.v.s ea.v.sC mkS (by rw [← je ea.v.v.s]; exact hV.v.rc.mono (List.Subset.trans hG (bD (bD (dD))))) (fun _ _=>rfl) rfl hA7 ag).mono ?_
 rintro e' w8 ⟨gS,rfl,hA9⟩
 refine ⟨_,rfl,fun a hF=>hK _ _ (fun _=>?_) ?_⟩
 ·exact (qT hA9)
 refine pR hF<|pW O O (fun _=>eU O JD qQ O (.none 0) (.some rfl rfl) (JE _) ag fK)<|pW O O (fun _=>yf 6 O JQ O kZ O)<|pW O O (fun _=>yf 9 O JP O kE O) fun a hF=>?_
 refine fZ O O O (fun K hK=>bH hF O O hA9 O O 2 O (by simp) rfl kE (fun w10 hA11=>hK _ _ (fun h=>absurd h ae) ?_))
 replace hA11:Hp w0 ([row gS 9 (cel cS (ea.v.v.s++List.replicate 80 mkS))]::[row b4 31 noEA.cells]::[row b1 31 ([.int .i64 ea.op,.int .i64 ea.num,.int .i64 ea.clk,ak ea.typ,ak ea.cas,ak ea.nam,.int .i64 ea.v.v.k,.int .i64 ea.v.v.n,ak ea.v.v.t,.slice (some ⟨gS,0,none⟩) ea.v.v.s.length (ea.v.v.s.length+80),.slice ea.aA ea.args.length ea.aC,.slice ea.bA ea.src.length ea.bC]++dc ea.eff)]::R) w10:=hA11
 refine bY ?_
 refine hK2 _ _ ?_
 refine wS hF fun K3 hK3=>vV O (yf 10 rfl JQ O qU O)<|vV O (aV O hA11.q O 2 O O ry)<|vV O (aT O JS O O)<|vV O (bK O O O (show IntKind.i64.wrap ((ea.args.length:Int)+80)=((ea.args.length+80:Nat):Int) by rw [JF _ ag]; omega)) fun a hF=>?_
 refine aI O (fun K hK=>BH (zs:=zVA.cells) (bytes:=56) hF O ae rfl hA11 JS Ia ae (ea.args.length+80) rfl rfl rfl rfl ag ag (fun gA w12 a hgA hF hA13=>hK _ _ ?_))
 replace hA13:Hp w0 ([row gA 25 ((List.replicate (ea.args.length+80) zVA.cells).flatten)]::[row gS 9 (cel cS (ea.v.v.s++List.replicate 80 mkS))]::[row b4 31 noEA.cells]::[row b1 31 ([.int .i64 ea.op,.int .i64 ea.num,.int .i64 ea.clk,ak ea.typ,ak ea.cas,ak ea.nam,.int .i64 ea.v.v.k,.int .i64 ea.v.v.n,ak ea.v.v.t,.slice (some ⟨gS,0,none⟩) ea.v.v.s.length (ea.v.v.s.length+80),.slice ea.aA ea.args.length ea.aC,.slice ea.bA ea.src.length ea.bC]++dc ea.eff)]::R) w12:=hA13
 have hA14:Hp w0 ([row gA 25 (cel VA.cells (List.replicate (ea.args.length+80) zVA))]::[row gS 9 (cel cS (ea.v.v.s++List.replicate 80 mkS))]::[row b4 31 noEA.cells]::[row b1 31 ([.int .i64 ea.op,.int .i64 ea.num,.int .i64 ea.clk,ak ea.typ,ak ea.cas,ak ea.nam,.int .i64 ea.v.v.k,.int .i64 ea.v.v.n,ak ea.v.v.t,.slice (some ⟨gS,0,none⟩) ea.v.v.s.length (ea.v.v.s.length+80),.slice ea.aA ea.args.length ea.aC,.slice ea.bA ea.src.length ea.bC]++dc ea.eff)]::R) w12:=(by have h9:=hA13; rw [← List.map_replicate (f:=VA.cells)] at h9; exact h9)
 refine vR hF<|vX O<|vE hK3<|wQ fun K4 hK4=>wT fun K5 hK5=>vX O<|vE hK5<|wBk fun a hF=>?_
 obtain ⟨n,hn⟩:∃ n,n=ea.args.length+80:=⟨_,rfl⟩
 have hA15:Hp w0 ([row gA 25 (cel VA.cells (List.replicate 0 markVA++List.replicate (ea.args.length+80-0) zVA))]::[row gS 9 (cel cS (ea.v.v.s++List.replicate 80 mkS))]::[row b4 31 noEA.cells]::[row b1 31 ([.int .i64 ea.op,.int .i64 ea.num,.int .i64 ea.clk,ak ea.typ,ak ea.cas,ak ea.nam,.int .i64 ea.v.v.k,.int .i64 ea.v.v.n,ak ea.v.v.t,.slice (some ⟨gS,0,none⟩) ea.v.v.s.length (ea.v.v.s.length+80),.slice ea.aA ea.args.length ea.aC,.slice ea.bA ea.src.length ea.bC]++dc ea.eff)]::R) w12:=hA14
 refine bz (G:=Nat) (fun j a x=>j≤ea.args.length+80∧Fr 72 [(4,.int .i64 ((j:Nat):Int)),(1,.pointer (some ⟨b1,0,none⟩)),(2,.pointer (some ⟨b4,0,none⟩)),(3,.slice (some ⟨gA,0,none⟩) (ea.args.length+80) (ea.args.length+80))] a∧Hp w0 ([row gA 25 (cel VA.cells (List.replicate j markVA++List.replicate (ea.args.length+80-j) zVA))]::[row gS 9 (cel cS (ea.v.v.s++List.replicate 80 mkS))]::[row b4 31 noEA.cells]::[row b1 31 ([.int .i64 ea.op,.int .i64 ea.num,.int .i64 ea.clk,ak ea.typ,ak ea.cas,ak ea.nam,.int .i64 ea.v.v.k,.int .i64 ea.v.v.n,ak ea.v.v.t,.slice (some ⟨gS,0,none⟩) ea.v.v.s.length (ea.v.v.s.length+80),.slice ea.aA ea.args.length ea.aC,.slice ea.bA ea.src.length ea.bC]++dc ea.eff)]::R) x) (fun j=>ea.args.length+80-j) 0 (⟨JE _,hF.keep [4,1,2,3] rfl,hA15⟩) ?_
 clear hF
 rintro j a w17 ⟨hj,hF,hA16⟩
 apply wp_seq_k; intro K6 hK6
 refine wS hF fun K7 hK7=>vX O<|vX O<|vV O (aT O JS O O)<|vV O (aG O O O O O)<|vE hK7 fun a hF=>?_
 by_cases hlt:j<ea.args.length+80
 ·refine aF hF O (dB ag) ?_
  apply wp_skip
  refine hK6 _ _ ?_
  apply wp_seq_k; intro K8 hK8
  apply wp_block
  refine wp_region_lit ?_
  refine vR hF<|vX O<|vX O fun a hF=>?_
  refine aI O (fun K hK=>aH hF O ae zO rfl rfl ?_)
  with_reducible refine (uH _ hA16).mono ?_
  rintro e' w18 ⟨rfl,hA19⟩
  refine ⟨_,rfl,fun a hF=>hK _ _ ?_⟩
  refine vR hF<|vV O (bI O JS kZ O O j rfl ag rfl) fun a hF=>?_
  refine aI O (fun K hK=>jd (new:=markVA.cells) hF O O hA19 O O 0 O (by rw [dR (sz:=4) (fun _ _=>rfl)]; simp only [List.length_append,List.length_replicate,List.length_cons,List.length_nil]; show _+4≤_; omega) (qM markVA) kZ (fun w20 hA21=>hK _ _ ?_))
  replace hA21:Hp w0 ([row gA 25 (splice (cel VA.cells (List.replicate j markVA++List.replicate (ea.args.length+80-j) zVA)) (0+j*4) (markVA.cells))]::[row gS 9 (cel cS (ea.v.v.s++List.replicate 80 mkS))]::[row b4 31 noEA.cells]::[row b1 31 ([.int .i64 ea.op,.int .i64 ea.num,.int .i64 ea.clk,ak ea.typ,ak ea.cas,ak ea.nam,.int .i64 ea.v.v.k,.int .i64 ea.v.v.n,ak ea.v.v.t,.slice (some ⟨gS,0,none⟩) ea.v.v.s.length (ea.v.v.s.length+80),.slice ea.aA ea.args.length ea.aC,.slice ea.bA ea.src.length ea.bC]++dc ea.eff)]::R) w20:=hA21
  have hA22:Hp w0 ([row gA 25 (cel VA.cells (List.replicate (j+1) markVA++List.replicate (ea.args.length+80-(j+1)) zVA))]::[row gS 9 (cel cS (ea.v.v.s++List.replicate 80 mkS))]::[row b4 31 noEA.cells]::[row b1 31 ([.int .i64 ea.op,.int .i64 ea.num,.int .i64 ea.clk,ak ea.typ,ak ea.cas,ak ea.nam,.int .i64 ea.v.v.k,.int .i64 ea.v.v.n,ak ea.v.v.t,.slice (some ⟨gS,0,none⟩) ea.v.v.s.length (ea.v.v.s.length+80),.slice ea.aA ea.args.length ea.aC,.slice ea.bA ea.src.length ea.bC]++dc ea.eff)]::R) w20:=(by have h9:=hA21; rw [Nat.zero_add,rY (x:=markVA) (sz:=4) (fun _ _=>rfl) (by simp only [List.length_append,List.length_replicate]; omega) rfl,ET ag] at h9; exact h9)
  refine aJ<|hK8 _ _ ?_
  refine wp_region_lit ?_
  refine vR hF<|vX O<|vV O (bK O O O (JF _ ag))<|vX O fun a hF=>?_
  refine aJ ?_
  exact ⟨j+1,ag,ag,hF.keep [4,1,2,3] rfl,hA22⟩
 ·refine az hF O (dw ag) ?_
  obtain rfl:j=ea.args.length+80:=by omega
  apply wp_exit
  refine hK4 _ _ ?_
  apply wp_seq_k; intro K9 hK9
  refine wS hF fun K10 hK10=>vX O<|vE hK10<|wBk fun a hF=>?_
  have hA23:Hp w0 ([row gA 25 (cel VA.cells (([]:List VA)++List.replicate (ea.args.length+80-0) markVA))]::[row gS 9 (cel cS (ea.v.v.s++List.replicate 80 mkS))]::[row b4 31 noEA.cells]::[row b1 31 ([.int .i64 ea.op,.int .i64 ea.num,.int .i64 ea.clk,ak ea.typ,ak ea.cas,ak ea.nam,.int .i64 ea.v.v.k,.int .i64 ea.v.v.n,ak ea.v.v.t,.slice (some ⟨gS,0,none⟩) ea.v.v.s.length (ea.v.v.s.length+80),.slice ea.aA ea.args.length ea.aC,.slice ea.bA ea.src.length ea.bC]++dc ea.eff)]::R) w17:=by have h9:=hA16; rw [Nat.sub_self,List.replicate_zero,List.append_nil] at h9; exact h9
  have hA24:Hp w0 (([]:Seg)::[row gA 25 (cel VA.cells (([]:List VA)++List.replicate (ea.args.length+80-0) markVA))]::[row gS 9 (cel cS (ea.v.v.s++List.replicate 80 mkS))]::[row b4 31 noEA.cells]::[row b1 31 ([.int .i64 ea.op,.int .i64 ea.num,.int .i64 ea.clk,ak ea.typ,ak ea.cas,ak ea.nam,.int .i64 ea.v.v.k,.int .i64 ea.v.v.n,ak ea.v.v.t,.slice (some ⟨gS,0,none⟩) ea.v.v.s.length (ea.v.v.s.length+80),.slice ea.aA ea.args.length ea.aC,.slice ea.bA ea.src.length ea.bC]++dc ea.eff)]::R) w17:=Hp.nil hA23
  refine bz (G:=Nat) (fun i a x=>∃ (us:List VA) (M:Seg),us.length=i∧i≤ea.args.length∧us.map VA.v=(ea.args.take i).map VA.v∧(∀ a∈us,MOk w0 M a)∧Fr 72 [(5,.int .i64 ((i:Nat):Int)),(1,.pointer (some ⟨b1,0,none⟩)),(2,.pointer (some ⟨b4,0,none⟩)),(3,.slice (some ⟨gA,0,none⟩) (ea.args.length+80) (ea.args.length+80))] a∧Hp w0 (M::[row gA 25 (cel VA.cells (us++List.replicate (ea.args.length+80-us.length) markVA))]::[row gS 9 (cel cS (ea.v.v.s++List.replicate 80 mkS))]::[row b4 31 noEA.cells]::[row b1 31 ([.int .i64 ea.op,.int .i64 ea.num,.int .i64 ea.clk,ak ea.typ,ak ea.cas,ak ea.nam,.int .i64 ea.v.v.k,.int .i64 ea.v.v.n,ak ea.v.v.t,.slice (some ⟨gS,0,none⟩) ea.v.v.s.length (ea.v.v.s.length+80),.slice ea.aA ea.args.length ea.aC,.slice ea.bA ea.src.length ea.bC]++dc ea.eff)]::R) x) (fun i=>ea.args.length-i) 0 (⟨[],[],rfl,JE _,rfl,(fun _ h=>absurd h (List.not_mem_nil)),hF.keep [5,1,2,3] rfl,hA24⟩) ?_
  clear hF
  rintro i a w26 ⟨us,M,hul,hi,hum,huo,hF,hA25⟩
  apply wp_seq_k; intro K11 hK11
  refine wS hF fun K12 hK12=>vX O<|vV O (yf 10 rfl JQ O qU O)<|vV O (aV O hA25.q O 4 O O ry)<|vV O (aT O JS O O)<|vV O (aG O O O O O)<|vE hK12 fun a hF=>?_
  by_cases hlt:i<ea.args.length
  ·refine aF hF O (dB ag) ?_
   obtain ⟨va,hp⟩:∃ q,ea.args[i]? = some q:=⟨_,List.getElem?_eq_getElem hlt⟩
   obtain ⟨hat,hle⟩:((jA ea.args).drop (i*4)).take 4=va.cells∧i*4+4≤(jA ea.args).length:=Go.Dk.flat_at (z:=4) (Ws:=ea.args.map VA.cells) (V:=va.cells) (i:=i) (fun V hV=>by obtain ⟨u,_,rfl⟩:=List.mem_map.1 hV; rfl) (by rw [List.getElem?_map,hp]; rfl)
   obtain ⟨b,o,hsA,hc⟩:=hV.rc.ne (i:=i*4) ag
   have hva:=hV.args _ (List.mem_of_getElem? hp)
   have hvs:=hsz va (List.mem_of_getElem? hp)
   apply wp_skip
   refine hK11 _ _ ?_
   apply wp_seq_k; intro K13 hK13
   apply wp_block
   refine wS hF fun K14 hK14=>vV O (yf 10 rfl JQ O qU O)<|vV O (aV (u:= .slice (some ⟨b,o,none⟩) ea.args.length ea.aC) rfl hA25.q O 4 O (by rw [← hsA]; rfl) ry) fun a hF=>?_
   refine vR hF<|vX O<|vV O (bI O JS kZ O O i rfl hlt rfl)<|vV O (gQ (new:=va.cells) rfl (Hq.sub hA25.q (List.Subset.trans hG (bD (bD (bD (bD (bD (dD)))))))) O hc (i*4) hle rfl hat Ef) fun a hF=>?_
   refine aI O (fun K hK=>df hF O ae rfl hA25 (xh) (fun b27 w28 a hb27 hF hA29=>hK _ _ ?_))
   refine aI O (fun K hK=>bu (new:=[.int .i64 va.v.k,.int .i64 va.v.n,ak va.v.t,.slice va.sA va.v.s.length va.sC]) hF O O hA29 O O 0 O O (by simp [Value.oneCell']) kZ (fun w30 hA31=>hK _ _ ?_))
   replace hA31:Hp w0 ([row b27 25 [.int .i64 va.v.k,.int .i64 va.v.n,ak va.v.t,.slice va.sA va.v.s.length va.sC]]::M::[row gA 25 (cel VA.cells (us++List.replicate (ea.args.length+80-us.length) markVA))]::[row gS 9 (cel cS (ea.v.v.s++List.replicate 80 mkS))]::[row b4 31 noEA.cells]::[row b1 31 ([.int .i64 ea.op,.int .i64 ea.num,.int .i64 ea.clk,ak ea.typ,ak ea.cas,ak ea.nam,.int .i64 ea.v.v.k,.int .i64 ea.v.v.n,ak ea.v.v.t,.slice (some ⟨gS,0,none⟩) ea.v.v.s.length (ea.v.v.s.length+80),.slice ea.aA ea.args.length ea.aC,.slice ea.bA ea.src.length ea.bC]++dc ea.eff)]::R) w30:=hA31
   refine aJ<|hK14 _ _ ?_
   apply wp_seq_k; intro K15 hK15
   refine bi 8 [2,8] [0,1,3,4,5,2,6,7,8] _ af af (Hq.drew hA31.q) ?_
   have hA32:=Hl.drew hA31
   refine pR hF<|pW O O (fun _=>yf 3 O JP O kE O)<|pV O O (fun x hx=>aV O hx O 0 O O kG)<|pW O O (fun _=>yf 3 O JP O kE O)<|pV O O (fun x hx=>aV O hx O 0 O O kG)<|pW O O (fun _=>aT O JD O O) fun a hF=>?_
   refine fZ O O O (fun K hK=>aH hF O ae vg rfl rfl ?_)
   with_reducible refine (jP w0 _ ([row b27 25 [.int .i64 va.v.k,.int .i64 va.v.n,ak va.v.t,.slice va.sA va.v.s.length va.sC]]::M::[row gA 25 (cel VA.cells (us++List.replicate (ea.args.length+80-us.length) markVA))]::[row gS 9 (cel cS (ea.v.v.s++List.replicate 80 mkS))]::[row b4 31 noEA.cells]::[row b1 31 ([.int .i64 ea.op,.int .i64 ea.num,.int .i64 ea.clk,ak ea.typ,ak ea.cas,ak ea.nam,.int .i64 ea.v.v.k,.int .i64 ea.v.v.n,ak ea.v.v.t,.slice (some ⟨gS,0,none⟩) ea.v.v.s.length (ea.v.v.s.length+80),.slice ea.aA ea.args.length ea.aC,.slice ea.bA ea.src.length ea.bC]++dc ea.eff)]::R) va.sA va.v.s va.sC mkS (by rw [← je va.v.s]; exact hva.rc.mono (List.Subset.trans hG (bD (bD (bD (bD (bD (bD (dD))))))))) (fun _ _=>rfl) rfl hA32 ag).mono ?_
   rintro e' w33 ⟨gi,rfl,hA34⟩
   refine ⟨_,rfl,fun a hF=>hK _ _ (fun _=>?_) ?_⟩
   ·exact (qT hA34)
   refine pR hF<|pW O O (fun _=>eU O JD qQ O (.none 0) (.some rfl rfl) (JE _) ag fK)<|pW O O (fun _=>yf 3 O JP O kE O) fun a hF=>?_
   refine fZ O O O (fun K hK=>bH hF O O hA34 O O 1 O (by simp) rfl kE (fun w35 hA36=>hK _ _ (fun h=>absurd h ae) ?_))
   replace hA36:Hp w0 ([row gi 9 (cel cS (va.v.s++List.replicate 80 mkS))]::[row b27 25 [.int .i64 va.v.k,.int .i64 va.v.n,ak va.v.t,.slice (some ⟨gi,0,none⟩) va.v.s.length (va.v.s.length+80)]]::M::[row gA 25 (cel VA.cells (us++List.replicate (ea.args.length+80-us.length) markVA))]::[row gS 9 (cel cS (ea.v.v.s++List.replicate 80 mkS))]::[row b4 31 noEA.cells]::[row b1 31 ([.int .i64 ea.op,.int .i64 ea.num,.int .i64 ea.clk,ak ea.typ,ak ea.cas,ak ea.nam,.int .i64 ea.v.v.k,.int .i64 ea.v.v.n,ak ea.v.v.t,.slice (some ⟨gS,0,none⟩) ea.v.v.s.length (ea.v.v.s.length+80),.slice ea.aA ea.args.length ea.aC,.slice ea.bA ea.src.length ea.bC]++dc ea.eff)]::R) w35:=hA36
   refine bY ?_
   refine hK15 _ _ ?_
   obtain ⟨vu,hvu⟩:∃ q:VA,q=⟨va.v,some ⟨gi,0,none⟩,va.v.s.length+80⟩:=⟨_,rfl⟩
   have hA37:Hp w0 ([row gi 9 (cel cS (va.v.s++List.replicate 80 mkS))]::[row b27 25 vu.cells]::M::[row gA 25 (cel VA.cells (us++List.replicate (ea.args.length+80-us.length) markVA))]::[row gS 9 (cel cS (ea.v.v.s++List.replicate 80 mkS))]::[row b4 31 noEA.cells]::[row b1 31 ([.int .i64 ea.op,.int .i64 ea.num,.int .i64 ea.clk,ak ea.typ,ak ea.cas,ak ea.nam,.int .i64 ea.v.v.k,.int .i64 ea.v.v.n,ak ea.v.v.t,.slice (some ⟨gS,0,none⟩) ea.v.v.s.length (ea.v.v.s.length+80),.slice ea.aA ea.args.length ea.aC,.slice ea.bA ea.src.length ea.bC]++dc ea.eff)]::R) w35:=(by rw [hvu]; exact hA36)
   refine wp_region_lit ?_
   refine vR hF<|vX O<|vX O<|vV O (bQ (new:=vu.cells) rfl hA37.q O 1 O Ef ai rfl)<|vV O (bI O JS kZ O O i rfl ag rfl) fun a hF=>?_
   refine aI O (fun K hK=>jd (new:=vu.cells) hF O O hA37 O O 3 O (by rw [dR (sz:=4) (fun _ _=>rfl)]; simp only [List.length_append,List.length_replicate,List.length_cons,List.length_nil]; show _+4≤_; omega) (qM vu) kZ (fun w38 hA39=>hK _ _ ?_))
   replace hA39:Hp w0 ([row gi 9 (cel cS (va.v.s++List.replicate 80 mkS))]::[row b27 25 vu.cells]::M::[row gA 25 (splice (cel VA.cells (us++List.replicate (ea.args.length+80-us.length) markVA)) (0+i*4) (vu.cells))]::[row gS 9 (cel cS (ea.v.v.s++List.replicate 80 mkS))]::[row b4 31 noEA.cells]::[row b1 31 ([.int .i64 ea.op,.int .i64 ea.num,.int .i64 ea.clk,ak ea.typ,ak ea.cas,ak ea.nam,.int .i64 ea.v.v.k,.int .i64 ea.v.v.n,ak ea.v.v.t,.slice (some ⟨gS,0,none⟩) ea.v.v.s.length (ea.v.v.s.length+80),.slice ea.aA ea.args.length ea.aC,.slice ea.bA ea.src.length ea.bC]++dc ea.eff)]::R) w38:=hA39
   have hA40:Hp w0 ([row gi 9 (cel cS (va.v.s++List.replicate 80 mkS))]::[row b27 25 vu.cells]::M::[row gA 25 (cel VA.cells ((us++[vu])++List.replicate (ea.args.length+80-(us++[vu]).length) markVA))]::[row gS 9 (cel cS (ea.v.v.s++List.replicate 80 mkS))]::[row b4 31 noEA.cells]::[row b1 31 ([.int .i64 ea.op,.int .i64 ea.num,.int .i64 ea.clk,ak ea.typ,ak ea.cas,ak ea.nam,.int .i64 ea.v.v.k,.int .i64 ea.v.v.n,ak ea.v.v.t,.slice (some ⟨gS,0,none⟩) ea.v.v.s.length (ea.v.v.s.length+80),.slice ea.aA ea.args.length ea.aC,.slice ea.bA ea.src.length ea.bC]++dc ea.eff)]::R) w38:=(by have h9:=hA39; rw [Nat.zero_add,rY (x:=vu) (sz:=4) (fun _ _=>rfl) (by simp only [List.length_append,List.length_replicate]; omega) rfl,GV hul ag] at h9; exact h9)
   refine aJ<|hK13 _ _ ?_
   refine wp_region_lit ?_
   refine vR hF<|vX O<|vV O (bK O O O (JF _ ag))<|vX O fun a hF=>?_
   refine aJ ?_
   have hA41:Hp w0 ([row gi 9 (cel cS (va.v.s++List.replicate 80 mkS))]::M::[row b27 25 vu.cells]::[row gA 25 (cel VA.cells ((us++[vu])++List.replicate (ea.args.length+80-(us++[vu]).length) markVA))]::[row gS 9 (cel cS (ea.v.v.s++List.replicate 80 mkS))]::[row b4 31 noEA.cells]::[row b1 31 ([.int .i64 ea.op,.int .i64 ea.num,.int .i64 ea.clk,ak ea.typ,ak ea.cas,ak ea.nam,.int .i64 ea.v.v.k,.int .i64 ea.v.v.n,ak ea.v.v.t,.slice (some ⟨gS,0,none⟩) ea.v.v.s.length (ea.v.v.s.length+80),.slice ea.aA ea.args.length ea.aC,.slice ea.bA ea.src.length ea.bC]++dc ea.eff)]::R) w38:=hpO 7 [0,2,1,3,4,5,6] hA40 rfl
   have hA42:Hp w0 ((([row gi 9 (cel cS (va.v.s++List.replicate 80 mkS))]:Seg)++M)::[row b27 25 vu.cells]::[row gA 25 (cel VA.cells ((us++[vu])++List.replicate (ea.args.length+80-(us++[vu]).length) markVA))]::[row gS 9 (cel cS (ea.v.v.s++List.replicate 80 mkS))]::[row b4 31 noEA.cells]::[row b1 31 ([.int .i64 ea.op,.int .i64 ea.num,.int .i64 ea.clk,ak ea.typ,ak ea.cas,ak ea.nam,.int .i64 ea.v.v.k,.int .i64 ea.v.v.n,ak ea.v.v.t,.slice (some ⟨gS,0,none⟩) ea.v.v.s.length (ea.v.v.s.length+80),.slice ea.aA ea.args.length ea.aC,.slice ea.bA ea.src.length ea.bC]++dc ea.eff)]::R) w38:=Hp.join hA41
   have hA43:Hp w0 ((([row gi 9 (cel cS (va.v.s++List.replicate 80 mkS))]:Seg)++M)::[row gA 25 (cel VA.cells ((us++[vu])++List.replicate (ea.args.length+80-(us++[vu]).length) markVA))]::[row gS 9 (cel cS (ea.v.v.s++List.replicate 80 mkS))]::[row b4 31 noEA.cells]::[row b1 31 ([.int .i64 ea.op,.int .i64 ea.num,.int .i64 ea.clk,ak ea.typ,ak ea.cas,ak ea.nam,.int .i64 ea.v.v.k,.int .i64 ea.v.v.n,ak ea.v.v.t,.slice (some ⟨gS,0,none⟩) ea.v.v.s.length (ea.v.v.s.length+80),.slice ea.aA ea.args.length ea.aC,.slice ea.bA ea.src.length ea.bC]++dc ea.eff)]::R) w38:=hpS 6 [0,2,3,4,5] [1] hA42 rfl
   exact ⟨i+1,ag,us++[vu],_,by rw [List.length_append,hul]; rfl,ag,by rw [List.map_append,hum,List.take_add_one,hp,hvu]; simp,Bz huo (by rw [hvu]; exact ⟨rfl,Rc.ofRow (i:=0) (off:=0) rfl (by rw [List.drop_zero]; exact List.take_length ..),hvs,hva.i⟩),hF.keep [5,1,2,3] rfl,hA43⟩
  ·refine az hF O (dw ag) ?_
   obtain rfl:i=ea.args.length:=by omega
   rw [List.take_length] at hum
   have hA44:Hp w0 (M::[row gA 25 (cel VA.cells (us++List.replicate 80 markVA))]::[row gS 9 (cel cS (ea.v.v.s++List.replicate 80 mkS))]::[row b4 31 noEA.cells]::[row b1 31 ([.int .i64 ea.op,.int .i64 ea.num,.int .i64 ea.clk,ak ea.typ,ak ea.cas,ak ea.nam,.int .i64 ea.v.v.k,.int .i64 ea.v.v.n,ak ea.v.v.t,.slice (some ⟨gS,0,none⟩) ea.v.v.s.length (ea.v.v.s.length+80),.slice ea.aA ea.args.length ea.aC,.slice ea.bA ea.src.length ea.bC]++dc ea.eff)]::R) w26:=(by have h9:=hA25; rw [hul,Nat.add_sub_cancel_left] at h9; exact h9)
   apply wp_exit
   refine hK9 _ _ ?_
   refine wS hF fun K16 hK16=>vX O<|vV O (yf 10 rfl JQ O qU O)<|vV O (aV O hA44.q O 4 O O ry)<|vV O (aT O JS O O)<|vV O (eU O JS kZ O (.none 0) (.some rfl rfl) (JE _) ag fK)<|vV O (yf 10 rfl JQ O qU O) fun a hF=>?_
   refine aI O (fun K hK=>bH hF O O hA44 O O 4 O (by simp) rfl qU (fun w45 hA46=>hK _ _ ?_))
   replace hA46:Hp w0 (M::[row gA 25 (cel VA.cells (us++List.replicate 80 markVA))]::[row gS 9 (cel cS (ea.v.v.s++List.replicate 80 mkS))]::[row b4 31 noEA.cells]::[row b1 31 ([.int .i64 ea.op,.int .i64 ea.num,.int .i64 ea.clk,ak ea.typ,ak ea.cas,ak ea.nam,.int .i64 ea.v.v.k,.int .i64 ea.v.v.n,ak ea.v.v.t,.slice (some ⟨gS,0,none⟩) ea.v.v.s.length (ea.v.v.s.length+80),.slice (some ⟨gA,0,none⟩) ea.args.length (ea.args.length+80),.slice ea.bA ea.src.length ea.bC]++dc ea.eff)]::R) w45:=hA46
   refine aJ<|hK16 _ _ ?_
   apply wp_seq_k; intro K17 hK17
   refine bi 8 [2,8] [0,1,3,4,5,2,6,7,8] _ af af (Hq.drew hA46.q) ?_
   have hA47:=Hl.drew hA46
   refine pR hF<|pW O O (fun _=>yf 11 rfl JQ O dF O)<|pV O O (fun x hx=>aV O hx O 4 O O iK)<|pW O O (fun _=>yf 11 rfl JQ O dF O)<|pV O O (fun x hx=>aV O hx O 4 O O iK)<|pW O O (fun _=>aT O JG O O) fun a hF=>?_
   refine fZ O O O (fun K hK=>aH hF O ae CW rfl rfl ?_)
   with_reducible refine (pz w0 _ (M::[row gA 25 (cel VA.cells (us++List.replicate 80 markVA))]::[row gS 9 (cel cS (ea.v.v.s++List.replicate 80 mkS))]::[row b4 31 noEA.cells]::[row b1 31 ([.int .i64 ea.op,.int .i64 ea.num,.int .i64 ea.clk,ak ea.typ,ak ea.cas,ak ea.nam,.int .i64 ea.v.v.k,.int .i64 ea.v.v.n,ak ea.v.v.t,.slice (some ⟨gS,0,none⟩) ea.v.v.s.length (ea.v.v.s.length+80),.slice (some ⟨gA,0,none⟩) ea.args.length (ea.args.length+80),.slice ea.bA ea.src.length ea.bC]++dc ea.eff)]::R) ea.bA ea.src ea.bC (hV.src.mono (List.Subset.trans hG (bD (bD (bD (bD (bD (dD)))))))) hA47 ag).mono ?_
   rintro e' w48 ⟨gB,rfl,hA49⟩
   refine ⟨_,rfl,fun a hF=>hK _ _ (fun _=>?_) ?_⟩
   ·exact (qT hA49)
   refine pR hF<|pW O O (fun _=>eU O JG fM rfl (.none 0) (.some rfl rfl) (JE _) ag fK)<|pW O O (fun _=>yf 11 rfl JQ O dF O) fun a hF=>?_
   refine fZ O O O (fun K hK=>bH hF O O hA49 O O 5 O (by simp) rfl dF (fun w50 hA51=>hK _ _ (fun h=>absurd h ae) ?_))
   replace hA51:Hp w0 ([row gB 5 (dc (ea.src++List.replicate 80 219))]::M::[row gA 25 (cel VA.cells (us++List.replicate 80 markVA))]::[row gS 9 (cel cS (ea.v.v.s++List.replicate 80 mkS))]::[row b4 31 noEA.cells]::[row b1 31 ([.int .i64 ea.op,.int .i64 ea.num,.int .i64 ea.clk,ak ea.typ,ak ea.cas,ak ea.nam,.int .i64 ea.v.v.k,.int .i64 ea.v.v.n,ak ea.v.v.t,.slice (some ⟨gS,0,none⟩) ea.v.v.s.length (ea.v.v.s.length+80),.slice (some ⟨gA,0,none⟩) ea.args.length (ea.args.length+80),.slice (some ⟨gB,0,none⟩) ea.src.length (ea.src.length+80)]++dc ea.eff)]::R) w50:=hA51
   refine bY ?_
   refine hK17 _ _ ?_
   apply wp_seq_k; intro K18 hK18
   obtain ⟨u,hu⟩:∃ q:EA,q=⟨ea.op,ea.num,ea.clk,ea.typ,ea.cas,ea.nam,⟨ea.v.v,some ⟨gS,0,none⟩,ea.v.v.s.length+80⟩,us,some ⟨gA,0,none⟩,ea.args.length+80,ea.src,some ⟨gB,0,none⟩,ea.src.length+80,ea.eff⟩:=⟨_,rfl⟩
   have hue:u.ev=ea.ev:=by rw [hu]; unfold EA.ev; simp only [hum]
   have hu32:u.eff.length=32:=by rw [hu]; exact he32
   have hA52:Hp w0 ([row gB 5 (dc (ea.src++List.replicate 80 219))]::M::[row gA 25 (cel VA.cells (us++List.replicate 80 markVA))]::[row gS 9 (cel cS (ea.v.v.s++List.replicate 80 mkS))]::[row b4 31 noEA.cells]::[row b1 31 ([.int .i64 u.op,.int .i64 u.num,.int .i64 u.clk,ak u.typ,ak u.cas,ak u.nam,.int .i64 u.v.v.k,.int .i64 u.v.v.n,ak u.v.v.t,.slice u.v.sA u.v.v.s.length u.v.sC,.slice u.aA u.args.length u.aC,.slice u.bA u.src.length u.bC]++dc u.eff)]::R) w50:=(by rw [hu]; simp only [hul]; exact hA51)
   refine wp_region_lit ?_
   refine vR hF<|vV O (bQ (new:=[.int .i64 u.op,.int .i64 u.num,.int .i64 u.clk,ak u.typ,ak u.cas,ak u.nam,.int .i64 u.v.v.k,.int .i64 u.v.v.n,ak u.v.v.t,.slice u.v.sA u.v.v.s.length u.v.sC,.slice u.aA u.args.length u.aC,.slice u.bA u.src.length u.bC]++dc u.eff) rfl hA52.q O 5 O Ed (by rw [List.length_append,aS,hu32]; exact Nat.le_of_ble_eq_true rfl) (by rw [List.drop_zero]; exact JO (by rw [List.length_append,aS,hu32]; exact Nat.le_of_ble_eq_true rfl))) fun a hF=>?_
   refine aI O (fun K hK=>bu (new:=[.int .i64 u.op,.int .i64 u.num,.int .i64 u.clk,ak u.typ,ak u.cas,ak u.nam,.int .i64 u.v.v.k,.int .i64 u.v.v.n,ak u.v.v.t,.slice u.v.sA u.v.v.s.length u.v.sC,.slice u.aA u.args.length u.aC,.slice u.bA u.src.length u.bC]++dc u.eff) hF O O hA52 O O 4 O (by rw [List.length_append,aS,hu32]; rfl) (fun v hv=>iy (e:=u) hv) jg (fun w53 hA54=>hK _ _ ?_))
   replace hA54:Hp w0 ([row gB 5 (dc (ea.src++List.replicate 80 219))]::M::[row gA 25 (cel VA.cells (us++List.replicate 80 markVA))]::[row gS 9 (cel cS (ea.v.v.s++List.replicate 80 mkS))]::[row b4 31 ([.int .i64 u.op,.int .i64 u.num,.int .i64 u.clk,ak u.typ,ak u.cas,ak u.nam,.int .i64 u.v.v.k,.int .i64 u.v.v.n,ak u.v.v.t,.slice u.v.sA u.v.v.s.length u.v.sC,.slice u.aA u.args.length u.aC,.slice u.bA u.src.length u.bC]++dc u.eff)]::[row b1 31 ([.int .i64 u.op,.int .i64 u.num,.int .i64 u.clk,ak u.typ,ak u.cas,ak u.nam,.int .i64 u.v.v.k,.int .i64 u.v.v.n,ak u.v.v.t,.slice u.v.sA u.v.v.s.length u.v.sC,.slice u.aA u.args.length u.aC,.slice u.bA u.src.length u.bC]++dc u.eff)]::R) w53:=hA54
   refine aJ<|hK18 _ _ ?_
   apply wp_ret
   refine qL hF Tryz.results67 hA54.q O 4 O (by rw [List.length_append,aS,hu32]; exact Ed) ?_
   have hA55:Hp w0 ([row gS 9 (cel cS (ea.v.v.s++List.replicate 80 mkS))]::[row gA 25 (cel VA.cells (us++List.replicate 80 markVA))]::[row gB 5 (dc (ea.src++List.replicate 80 219))]::M::R) w53:=hpS 6 [3,2,0,1] [4,5] hA54 rfl
   refine ⟨u,gS,gA,gB,M,rfl,hue,?_,?_⟩
   ·rw [hu]
    exact ⟨rfl,rfl,rfl,by show _=us.length+80; rw [hul],rfl,rfl,huo,hvl,by show us.length≤_; rw [hul]; exact hal,hbl,by rw [hu] at hue; rw [hue]; exact hV.i⟩
   ·rw [hu]
    exact hA55
end Go.Proofs.YtepbmdlgdaedpaaGreatDoor
