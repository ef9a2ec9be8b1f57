/- Texts that belong together, one behind the other. -/
import Derived.Test.YtepbmdlgdaedpaaGreatDoorEv9
import Derived.Test.YtepbmdlgdaedpaaGreatDoorSt1
import Derived.Test.YtepbmdlgdaedpaaGreatDoorBook1
import Derived.Test.YtepbmdlgdaedpaaGreatDoorOctetH
import Derived.Test.YtepbmdlgdaedpaaGreatDoorOctetS
import Derived.Test.YtepbmdlgdaedpaaGreatDoorBk
import Derived.Test.YtepbmdlgdaedpaaGreatDoorSt2
import Derived.Test.YtepbmdlgdaedpaaGreatDoorTwo
import Derived.Test.YtepbmdlgdaedpaaGreatDoorKc
import Derived.Test.YtepbmdlgdaedpaaGreatDoorEv8
import Derived.Test.YtepbmdlgdaedpaaGreatDoorEv7
namespace Go.Proofs.YtepbmdlgdaedpaaGreatDoor
open Go.RowKit Go.Dk
theorem Iz {i m n:Nat} (h:(aI .lss ((i:Nat):Int) (m:Int) && aI .leq ((n:Nat):Int) 50000)=true):i<m∧n≤50000:=by
 simp [aI] at h
 omega
theorem Iy {l:List VA} {i n:Nat} {va:VA} (h:∀ a∈l.take i,a.v.s.length≤n) (hp:l[i]? = some va):∀ a∈l.take (i+1),a.v.s.length≤n+va.v.s.length:=fun a ha=>by
 rw [List.take_add_one,hp] at ha
 rcases List.mem_append.1 ha with ha | ha
 ·exact Nat.le_trans (h a ha) (Nat.le_add_right _ _)
 ·rw [Option.toList_some,List.mem_singleton] at ha; subst ha; exact Nat.le_add_left _ _
theorem IA {ea:EA} {i n:Nat} (h:(aI .lss ((i:Nat):Int) (ea.args.length:Int) && aI .leq ((n:Nat):Int) 50000)=false) (hb:ea.v.v.s.length+ea.args.length≤n) (has:∀ a∈ea.args.take i,a.v.s.length≤n):aI .gtr ((n:Nat):Int) 50000=false→ea.v.v.s.length≤50000∧ea.args.length≤50000∧∀ a∈ea.args,a.v.s.length≤50000:=fun hn=>by
 simp [aI] at h hn
 have hi:ea.args.length≤i:=by omega
 rw [Ny hi] at has
 exact ⟨ ag,ag,fun a ha=>Nat.le_trans (has a ha) ag⟩
set_option maxRecDepth 100000 in
set_option maxHeartbeats 8000000 in
theorem E5 {w0:World} {R:List Seg} {G:List Seg} (ea:EA) (w:World) (hV:ea.Ok w0 G) (hvl:ea.v.v.s.length<8796093022000) (hal:ea.args.length<8796093022000) (hsz:∀ a∈ea.args,a.v.s.length<8796093022000) (hG:G⊆R) (hA:Hp w0 R w):Calls Tryz.prog 14 #[.agg ea.cells.toArray] w fun e w'=>∃ b:Bool,e= .returned (.bool b)∧(b=false→ea.v.v.s.length≤50000∧ea.args.length≤50000∧∀ a∈ea.args,a.v.s.length≤50000)∧Hp w0 R w':=by
 have he32:ea.eff.length=32:=hV.i.2.2.2.2.2
 refine aP Tryz.func14 O Tryz.ntmps14 ai (fun a hF=>?_)
 refine wp_seq_k fun K1 hK1=>wp_region_lit ?_
 refine ax O (fun K hK=>ed (cs:=ea.cells) hF O ae rfl hA O (fun b1 w2 a hb1 hF hA3=>hK _ _ ?_))
 refine vR hF<|vX O<|vE hK1<|wT fun K2 hK2=>vV O (yf 6 O NE O nD O)<|vV O (yf 9 O ND O mf O)<|vV O (aU O hA3.q O 0 O O mi)<|vV O (aT O Nk O O)<|vV O (yf 10 rfl NE O uF O)<|vV O (aU O hA3.q O 0 O O uY)<|vV O (aT O NG O O)<|vV O (bT O O O (show IntKind.i64.wrap ((ea.v.v.s.length:Int)+(ea.args.length:Int))=((ea.v.v.s.length+ea.args.length:Nat):Int) by rw [Np _ ag]; omega)) fun a hF=>?_
 refine vR hF<|vX O<|vE hK2<|wQ fun K3 hK3=>wT fun K4 hK4=>vX O<|vE hK4<|wBk fun a hF=>?_
 refine bH (G:=Nat) (fun i a x=>∃ (n:Nat),i≤ea.args.length∧n≤20000000000000∧ea.v.v.s.length+ea.args.length≤n∧(∀ a∈ea.args.take i,a.v.s.length≤n)∧Fr 35 [(3,.int .i64 ((n:Nat):Int)),(4,.int .i64 ((i:Nat):Int)),(1,.pointer (some ⟨b1,0,none⟩))] a∧Hp w0 ([row b1 31 ([.int .i64 ea.op,.int .i64 ea.num,.int .i64 ea.clk,aj ea.typ,aj ea.cas,aj ea.nam,.int .i64 ea.v.v.k,.int .i64 ea.v.v.n,aj ea.v.v.t,.slice ea.v.sA ea.v.v.s.length ea.v.sC,.slice ea.aA ea.args.length ea.aC,.slice ea.bA ea.src.length ea.bC]++dc ea.eff)]::R) x) (fun i=>ea.args.length-i) 0 (⟨ea.v.v.s.length+ea.args.length,Nl _,ag,(Nv _),(fun _ h=>absurd h (List.not_mem_nil)),hF.keep [3,4,1] rfl,hA3⟩) ?_
 clear hF
 rintro i a w5 ⟨n,hi,hn,hb,has,hF,hA4⟩
 apply wp_seq_k; intro K5 hK5
 refine wS hF fun K6 hK6=>vX O<|vV O (yf 10 rfl NE O uF O)<|vV O (aU O hA4.q O 0 O O uY)<|vV O (aT O NG O O)<|vV O (aF O O O O O)<|vX O fun a hF=>?_
 refine bK (l2:=?lA1) hF [(21,.bool ((aI .lss (((i:Nat):Int)) (ea.args.length)) && (aI .leq (((n:Nat):Int)) (50000)))),(1,.pointer (some ⟨b1,0,none⟩)),(3,.int .i64 ((n:Nat):Int)),(4,.int .i64 ((i:Nat):Int))] (fun hJ1=>?elA1) (fun a hF=>?flA1)
 case elA1 =>
  rcases tf (aI .lss (((i:Nat):Int)) (ea.args.length)) with hg1 | hg1
  ·refine az hF O O O O O (aB hg1) ae (fun a hF=>?_)
   refine az hF O O O O O (aB hg1) ae (fun a hF=>?_)
   refine vR hF<|vV O (bu hg1 rfl rfl rfl) fun a hF=>?_
   exact hJ1 _ ((hF.keep [21,1,3,4] (F':=[(21,_),(1,_),(3,_),(4,_)]) O).bool (by rw [hg1]; rfl))
  ·refine aJ hF O O O O (ak hg1) ae _ (aV O O) (fun a hF=>?_)
   refine aJ hF O O O O (ak hg1) ae _ (aF O O O O O) (fun a hF=>?_)
   refine vR hF<|vV O (bF hg1 rfl rfl rfl) fun a hF=>?_
   exact hJ1 _ ((hF.keep [21,1,3,4] (F':=[(21,_),(1,_),(3,_),(4,_)]) O).bool (by rw [hg1]; rfl))
 refine aH<|hK6 _ _ ?_
 rcases tf ((aI .lss (((i:Nat):Int)) (ea.args.length)) && (aI .leq (((n:Nat):Int)) (50000))) with hc | hc
 ·refine au hF O hc ?_
  apply wp_exit
  refine hK3 _ _ ?_
  refine wS hF fun K7 hK7=>vX O<|vV O (aF O O O O O)<|vX O<|vE hK7 fun a hF=>?_
  apply wp_ret
  refine aO hF Tryz.results14 O ?_
  have hA6:Hp w0 (R) w5:=hpS 1 [] [0] hA4 rfl
  exact ⟨_,rfl,IA hc hb has,hA6⟩
 ·refine aG hF O hc ?_
  obtain ⟨hlt,hn5⟩:=Iz hc
  obtain ⟨va,hp⟩:∃ q,ea.args[i]? = some q:=⟨_,List.getElem?_eq_getElem hlt⟩
  obtain ⟨hat,hle⟩:((mM ea.args).drop (i*4)).take 4=va.cells∧i*4+4≤(mM ea.args).length:=Go.Dk.flat_at (z:=4) (Ws:=ea.args.map VA.cells) (V:=va.cells) (i:=i) (fun V hV=>by obtain ⟨u,_,rfl⟩:=List.mem_map.1 hV; rfl) (by rw [List.getElem?_map,hp]; rfl)
  obtain ⟨b,o,hsA,hc⟩:=hV.rc.ne (i:=i*4) ag
  have hva:=hV.args _ (List.mem_of_getElem? hp)
  have hvs:=hsz va (List.mem_of_getElem? hp)
  apply wp_skip
  refine hK5 _ _ ?_
  apply wp_seq_k; intro K8 hK8
  apply wp_block
  refine wp_region_lit ?_
  refine vR hF<|vX O<|vV O (yf 10 rfl NE O uF O)<|vV O (aU (u:= .slice (some ⟨b,o,none⟩) ea.args.length ea.aC) rfl hA4.q O 0 O (by rw [← hsA]; rfl) uY) fun a hF=>?_
  refine vR hF<|vX O<|vV O (aY O NG nD O O i rfl hlt rfl)<|vV O (jR O ND O mf ae rfl rfl)<|vV O (bV (u:= .slice va.sA va.v.s.length va.sC) rfl (Hq.sub hA4.q (List.Subset.trans hG (bM (dR)))) O hc (i*4+3) ag rfl (mF (k:=3) hat (by show 3<4; decide)) mi) fun a hF=>?_
  refine vR hF<|vV O (aT O Nk O O)<|vV O (bT O O O (show IntKind.i64.wrap ((n:Int)+(va.v.s.length:Int))=((n+va.v.s.length:Nat):Int) by rw [Np _ ag]; omega)) fun a hF=>?_
  refine vR hF<|vX O fun a hF=>aH<|hK8 _ _ ?_
  refine wp_region_lit ?_
  refine vR hF<|vX O<|vV O (bT O O O (Np _ ag))<|vX O fun a hF=>?_
  refine aH ?_
  exact ⟨i+1,ag,_,ag,ag,ag,Iy has hp,hF.keep [3,4,1] rfl,hA4⟩
abbrev mkS:List UInt8:=[109,97,114,107]
abbrev Eu:VA:=⟨⟨-77,0,[],[]⟩,none,0⟩
def MOk (w0:World) (M:Seg) (a:VA):Prop:=a.sC=a.v.s.length+80∧Rc w0 [M] a.sA (cel cS (a.v.s++List.replicate 80 mkS))∧a.v.s.length≤50000∧a.v.In
structure WE (w0:World) (gS gA gB:Nat) (M:Seg) (u:EA):Prop where
 vA:u.v.sA=some ⟨gS,0,none⟩
 vC:u.v.sC=u.v.v.s.length+80
 aA:u.aA=some ⟨gA,0,none⟩
 aC:u.aC=u.args.length+80
 bA:u.bA=some ⟨gB,0,none⟩
 bC:u.bC=u.src.length+80
 m:∀ a∈u.args,MOk w0 M a
 nS:u.v.v.s.length≤50000
 nA:u.args.length≤50000
 nB:u.src.length≤140737488351232
 i:u.ev.In
abbrev sgS (g:Nat) (u:EA):Seg:=[row g 9 (cel cS (u.v.v.s++List.replicate 80 mkS))]
abbrev sgA (g:Nat) (u:EA):Seg:=[row g 25 (cel VA.cells (u.args++List.replicate 80 Eu))]
abbrev sgB (g:Nat) (u:EA):Seg:=[row g 5 (dc (u.src++List.replicate 80 219))]
theorem yU {α:Type} {C:α→List Value} {w0:World} {R:List Seg} {A:Option Addr} {l m:List α} (h:Rc w0 R A (cel C (l++m))):Rc w0 R A (cel C l):=by
 have:=h.take (cel C l).length
 rwa [nz,List.take_left' rfl] at this
theorem MOk.ok {w0:World} {M:Seg} {a:VA} (h:MOk w0 M a):a.Ok w0 [M]:=⟨by rw [jw]; exact yU h.2.1,by have:=h.2.2.1; omega,h.2.2.2⟩
theorem WE.rS {w0:World} {gS gA gB:Nat} {M:Seg} {u:EA} (h:WE w0 gS gA gB M u):Rc w0 [sgS gS u] u.v.sA (cel cS (u.v.v.s++List.replicate 80 mkS)):=by rw [h.vA]; exact Rc.ofRow (i:=0) (off:=0) rfl (by rw [List.drop_zero]; exact List.take_length ..)
theorem WE.rA {w0:World} {gS gA gB:Nat} {M:Seg} {u:EA} (h:WE w0 gS gA gB M u):Rc w0 [sgA gA u] u.aA (cel VA.cells (u.args++List.replicate 80 Eu)):=by rw [h.aA]; exact Rc.ofRow (i:=0) (off:=0) rfl (by rw [List.drop_zero]; exact List.take_length ..)
theorem WE.rB {w0:World} {gS gA gB:Nat} {M:Seg} {u:EA} (h:WE w0 gS gA gB M u):Rd w0 [sgB gB u] u.bA (u.src++List.replicate 80 219):=by rw [h.bA]; exact Rc.ofRow (i:=0) (off:=0) rfl (by rw [List.drop_zero]; exact List.take_length ..)
abbrev WE.sg (gS gA gB:Nat) (M:Seg) (u:EA):List Seg:=[sgS gS u,sgA gA u,sgB gB u,M]
theorem WE.ok {w0:World} {gS gA gB:Nat} {M:Seg} {u:EA} (h:WE w0 gS gA gB M u):u.Ok w0 (WE.sg gS gA gB M u):=by
 have hm:∀ {X:Seg},X∈WE.sg gS gA gB M u→[X]⊆WE.sg gS gA gB M u:=fun hX=>List.cons_subset.2 ⟨hX,List.nil_subset _⟩
 have h1:=h.nS
 have h2:=h.nA
 have h3:=h.nB
 refine ⟨⟨?_,ag,h.i.2.2.2.1⟩,fun a ha=>(h.m a ha).ok.mono (hm (by simp)),(yU h.rA).mono (hm (by simp)),ag,?_,ag,h.i⟩
 ·rw [jw]; exact (yU h.rS).mono (hm (by simp))
 ·have:=(Rc.take h.rB u.src.length).mono (hm (by simp:sgB gB u∈WE.sg gS gA gB M u))
  rwa [show (dc (u.src++List.replicate 80 219)).take u.src.length=dc u.src by rw [iO]; exact List.take_left' (aW _)] at this
end Go.Proofs.YtepbmdlgdaedpaaGreatDoor
namespace Go.Proofs.YtepbmdlgdaedpaaGreatDoor
open Go.RowKit Go.Dk
structure KeptR where
 x:KeptX VA
 m:List VA
def ROK (k:KeptR):Prop:=k.x.l.length≤9223372036854775807∧Buf 25 4 k.x.X k.x.v k.x.l.length (cel VA.cells k.x.l)∧Buf 25 4 k.x.Z k.x.cv k.m.length (cel VA.cells k.m)∧k.x.l.map VA.v=k.m.map VA.v
def RRd (w0:World) (R:List Seg) (k:KeptR):Prop:=(∀ a∈k.x.l,a.Ok w0 R)∧∀ a∈k.m,a.Ok w0 R
def RowsV (ks:List KeptR) (lv wv:Value) (Y:Seg):Prop:=ks.length≤4000∧∃ XL XW,Buf 26 1 XL lv ks.length (ks.map (·.x.v))∧Buf 26 1 XW wv ks.length (ks.map (·.x.cv))∧(∀ k∈ks,ROK k)∧Y=XL++(XW++aS (ks.map (·.x)))
theorem RowsV.new:RowsV [] (.slice none 0 0) (.slice none 0 0) []:=⟨Nl _,[],[],Buf.nil _ _,Buf.nil _ _,(fun _ h=>by cases h),rfl⟩
theorem Jw (A:Option Addr) (n c:Nat) (w:World):(Instr.buildSlice 72 1 #[(0,.slice A n c)]).run Tryz.prog w= .ok (.slice (some ⟨w.heap.size,0,none⟩) 1 1) (w.alloc (.cells #[.slice A n c] 26)):=af
theorem xK:gV Tryz.prog 26 1 24:=iC (z:= .slice none 0 0) af af
theorem lL {ks:List KeptR} {k:KeptR} (h:k∈ks):k.x.X⊆aS (ks.map (·.x))∧k.x.Z⊆aS (ks.map (·.x)):=dL (List.mem_map_of_mem h)
set_option maxRecDepth 100000 in
set_option maxHeartbeats 8000000 in
theorem xM {w0:World} {R G H:List Seg} (A1:Option Addr) (l:List VA) (c1:Nat) (A2:Option Addr) (m:List VA) (c2:Nat) (w:World) (h1:Rc w0 G A1 (cel VA.cells l)) (hG:G⊆R) (h2:Rc w0 H A2 (cel VA.cells m)) (hH:H⊆R) (h1o:∀ a∈l,a.Ok w0 R) (h2o:∀ a∈m,a.Ok w0 R) (hlm:l.map VA.v=m.map VA.v) (hl:l.length≤9223372036854775807) (hA:Hp w0 R w):Calls Tryz.prog 102 #[.slice A1 l.length c1,.slice A2 m.length c2,.func (.func 25) #[] #[]] w fun e w'=>e= .returned (.bool true)∧Hp w0 R w':=by
 have hlen:l.length=m.length:=by have h9:=congrArg List.length hlm; rwa [List.length_map,List.length_map] at h9
 refine aP Tryz.func102 O Tryz.ntmps102 ai (fun a hF=>?_)
 refine wS hF fun K1 hK1=>vX O<|vE hK1<|wQ fun K2 hK2=>wT fun K3 hK3=>vX O<|vV O (aT O NG O O)<|vX O<|vV O (aT O NG O O)<|vV O (aF O O O O (fK ag))<|vE hK3<|vF1 O<|wKp hK2<|wQ fun K4 hK4=>wT fun K5 hK5=>vX O<|vE hK5<|wBk fun a hF=>?_
 refine bH (G:=Nat) (fun i a x=>i≤l.length∧Fr 30 [(7,.int .i64 ((i:Nat):Int)),(0,.slice A1 l.length c1),(1,.slice A2 m.length c2),(2,.func (.func 25) #[] #[])] a∧Hp w0 (R) x) (fun i=>l.length-i) 0 (⟨Nl _,hF.keep [7,0,1,2] rfl,hA⟩) ?_
 clear hF
 rintro i a w2 ⟨hi,hF,hA1⟩
 apply wp_seq_k; intro K6 hK6
 refine wS hF fun K7 hK7=>vX O<|vX O<|vV O (aT O NG O O)<|vV O (aF O O O O O)<|vE hK7 fun a hF=>?_
 by_cases hlt:i<l.length
 ·refine aG hF O (dF ag) ?_
  obtain ⟨va,hpva⟩:∃ q,l[i]? = some q:=⟨_,List.getElem?_eq_getElem hlt⟩
  obtain ⟨htva,hleva⟩:=lW (C:=VA.cells) (sz:=4) (fun _ _=>rfl) hpva
  obtain ⟨bva,ova,hsva,hccva⟩:=h1.ne (i:=i*4) ag
  obtain ⟨vb,hpvb⟩:∃ q,m[i]? = some q:=⟨_,List.getElem?_eq_getElem ag⟩
  obtain ⟨htvb,hlevb⟩:=lW (C:=VA.cells) (sz:=4) (fun _ _=>rfl) hpvb
  obtain ⟨bvb,ovb,hsvb,hccvb⟩:=h2.ne (i:=i*4) ag
  rw [hsva,hsvb] at hF
  have hvab:va.v=vb.v:=by
   have h9:(l.map VA.v)[i]? = (m.map VA.v)[i]? := by rw [hlm]
   rw [List.getElem?_map,List.getElem?_map,hpva,hpvb] at h9
   injection h9
  apply wp_skip
  refine hK6 _ _ ?_
  apply wp_seq_k; intro K8 hK8
  apply wp_block
  apply wp_seq_k; intro K9 hK9
  refine aQ 10 [9,10] [0,1,2,3,4,5,6,7,8,9,10] _ af af (Hq.drew hA1.q) ?_
  have hA3:=Hl.drew hA1
  refine pR hF<|pX O O<|pX O O<|pX O O<|pW O O (fun _=>aY O NG nD O O i rfl hlt rfl)<|pV O O (fun x hx=>dK (new:=va.cells) rfl (Hq.sub hx (List.Subset.trans hG (dR))) O hccva (i*4) hleva rfl htva Ho)<|pX O O<|pX O O<|pW O O (fun _=>aY O NG nD O O i rfl ag rfl)<|pV O O (fun x hx=>dK (new:=vb.cells) rfl (Hq.sub hx (List.Subset.trans hH (dR))) O hccvb (i*4) hlevb rfl htvb Ho) fun a hF=>?_
  refine fG O O O (fun K hK=>iP hF O ae Bg rfl rfl rfl ?_)
  with_reducible refine (lS va vb _ (h1o _ (List.mem_of_getElem? hpva)) (List.Subset.refl _) (h2o _ (List.mem_of_getElem? hpvb)) (List.Subset.refl _) hA3).mono ?_
  rintro e' w4 ⟨rfl,hA5⟩
  refine ⟨_,rfl,fun a hF=>hK _ _ (fun _=>?_) ?_⟩
  ·exact hA5.q
  replace hA5:Hp w0 (R) w4:=hA5
  rw [decide_eq_true hvab] at hF
  refine dG hF O O O O ae _ (dm O O O) (fun h=>absurd h ae) (fun a hF=>?_)
  refine bI ?_
  refine hK9 _ _ ?_
  refine dn hF O ?_
  apply wp_skip
  refine hK8 _ _ ?_
  refine wp_region_lit ?_
  refine vR hF<|vX O<|vV O (bT O O O (Np _ ag))<|vX O fun a hF=>?_
  refine aH ?_
  rw [← hsva,← hsvb] at hF
  exact ⟨i+1,ag,ag,hF.keep [7,0,1,2] rfl,hA5⟩
 ·refine au hF O (dE ag) ?_
  apply wp_exit
  refine hK4 _ _ ?_
  refine wS hF fun K10 hK10=>vX O<|vE hK10 fun a hF=>?_
  apply wp_ret
  refine aO hF Tryz.results102 O ?_
  exact ⟨rfl,hA1⟩
def jI (i:Nat):VA:=⟨⟨0,-1000-(i:Int),[],[]⟩,none,0⟩
theorem LW (z:Int) (w:World):(Instr.build 25 #[(1,.int .i64 z)]).run Tryz.prog w= .ok (.agg ([.int .i64 0,.int .i64 z,aj [],.slice none 0 0]:List Value).toArray) w:=af
theorem xH {w0:World} {G:List Seg} {i:Nat} (h:i<4000):(jI i).Ok w0 G:=⟨Rc.nil,Nl _,⟨⟨by show (_:Int)≤0; decide,by show (0:Int)≤_; decide⟩,⟨by show (_:Int) ≤ -1000-(i:Int); omega,by show -1000-(i:Int)≤_; omega⟩⟩⟩
set_option maxRecDepth 100000 in
set_option maxHeartbeats 8000000 in
theorem Ai {w0:World} {R:List Seg} (i:Nat) (w:World) (hi:i<4000) (hA:Hp w0 R w):Calls Tryz.prog 40 #[.int .i64 (i:Int)] w fun e w'=>e= .returned (.agg (jI i).cells.toArray)∧Hp w0 R w':=by
 refine aP Tryz.func40 O Tryz.ntmps40 ai (fun a hF=>?_)
 refine wp_seq_k fun K1 hK1=>wp_region_lit ?_
 refine ax O (fun K hK=>dC hF O ae rfl hA (zQ) (fun b1 w2 a hb1 hF hA3=>hK _ _ ?_))
 refine aH<|hK1 _ _ ?_
 refine wS hF fun K2 hK2=>vX O<|vV O (eu O O O (show IntKind.i64.wrap (-1000-(i:Int)) = -1000-(i:Int) by rw [Np _ ag])) fun a hF=>?_
 refine vR hF<|vV O (fM (qs := #[(1,.int .i64 (-1000-(i:Int)))]) O O (LW _)) fun a hF=>?_
 refine ax O (fun K hK=>bG (new:=[.int .i64 0,.int .i64 (-1000-(i:Int)),aj [],.slice none 0 0]) hF O O hA3 O O 0 O O (by simp [Value.oneCell']) nD (fun w4 hA5=>hK _ _ ?_))
 replace hA5:Hp w0 ([row b1 25 [.int .i64 0,.int .i64 (-1000-(i:Int)),aj [],.slice none 0 0]]::R) w4:=hA5
 refine aH<|hK2 _ _ ?_
 apply wp_ret
 refine qj hF Tryz.results40 hA5.q O 0 O (by exact Ho) ?_
 have hA6:Hp w0 (R) w4:=hpS 1 [] [0] hA5 rfl
 exact ⟨rfl,hA6⟩
end Go.Proofs.YtepbmdlgdaedpaaGreatDoor
