/- Lists of names looked through; what a case holds. -/
import Derived.Test.YtepbmdlgdaedpaaGreatDoorBk
import Derived.Test.YtepbmdlgdaedpaaGreatDoorEv9
/- Lists of names looked through; what a case holds. -/
namespace Go.Proofs.YtepbmdlgdaedpaaGreatDoor
open Go.RowKit Go.Dk
theorem Ej:bi Tryz.prog 50=true:=af
theorem DT:isRow Tryz.prog 76 5=true:=af
theorem DI:(Tryz.prog.info? 50).map (·.size)=some 1:=af
theorem wV:(Tryz.prog.info? 76).map (·.size)=some 5:=af
theorem C9:aK Tryz.prog 146:=⟨_,Tryz.func146,af,af⟩
theorem Dn:dB Tryz.prog 76 (.agg ([.string (⟨#[]⟩),.int .i64 0,.int .i64 0,.string (⟨#[]⟩),.slice none 0 0]:List Value).toArray):=by unfold dB; kernel_rfl
structure CA where
 name:List UInt8
 typ:List UInt8
 cnt:Int
 ch:List UInt8
 vals:List (List UInt8 × VA)
 vA:Option Addr
 vC:Nat
 opn:List (List UInt8)
 oA:Option Addr
 oC:Nat
 clo:List (List UInt8)
 cA:Option Addr
 cC:Nat
 rea:List (List UInt8)
 rA:Option Addr
 rC:Nat
abbrev oJ (b:List UInt8 × VA):List Value:=aj b.1::b.2.cells
abbrev CA.tl (c:CA):List Value:=[.slice c.vA c.vals.length c.vC,.slice c.oA c.opn.length c.oC,.slice c.cA c.clo.length c.cC,.slice c.rA c.rea.length c.rC]
abbrev CA.cells (c:CA):List Value:=[aj c.name,aj c.typ,.int .i64 c.cnt]++(dc c.ch++c.tl)
def CA.bind (c:CA):List (List UInt8 × Val):=c.vals.map fun b=>(b.1,b.2.v)
structure CA.Ok (w0:World) (G:List Seg) (c:CA):Prop where
 h32:c.ch.length=32
 vok:∀ b∈c.vals,b.2.Ok w0 G
 vr:Rc w0 G c.vA (c.vals.map oJ).flatten
 vn:c.vals.length≤9223372036854775807
 opr:Rc w0 G c.oA (c.opn.map aj)
 opl:c.opn.length≤9223372036854775807
 clr:Rc w0 G c.cA (c.clo.map aj)
 cll:c.clo.length≤9223372036854775807
 rer:Rc w0 G c.rA (c.rea.map aj)
 rel:c.rea.length≤9223372036854775807
theorem Bl {c:CA} (h:c.ch.length=32) (k:Nat):c.cells[35+k]? = c.tl[k]? := by
 rw [List.getElem?_append_right (by show 3≤35+k; omega),List.getElem?_append_right (by rw [aW,h]; show 32≤35+k-3; omega),aW,h]
 congr 1
 show 35+k-3-32=k
 omega
theorem Gq {c:CA} (h:c.ch.length=32):c.cells.length=39:=by
 rw [List.length_append,List.length_append,aW,h]; rfl
theorem Fg {n:Int} {ch:List UInt8} (h:ch.length=32):(Value.int .i64 n::dc ch).length=33:=by rw [List.length_cons,aW,h]
theorem yL {a b:List UInt8} (h:bJ .eql a b=true):a=b:=by unfold bJ at h; simpa using h
theorem yN {a b:List UInt8} (h:bJ .eql a b=false):¬ a=b:=by unfold bJ at h; simpa using h
theorem xE {α:Type} {l:List α} {i:Nat} {x y:α} (h:¬ x∈l.take i) (hi:l[i]? = some y) (hn:¬ x=y):¬ x∈l.take (i+1):=by
 rw [List.take_add_one,hi]
 simp only [Option.toList_some,List.mem_append,List.mem_singleton,not_or]
 exact ⟨h,hn⟩
theorem Iw {c:CA} {i:Nat} {b:List UInt8 × VA} {nm:List UInt8} (h:(c.bind.take i).find? (fun b=>decide (b.1=nm))=none) (hi:c.vals[i]? = some b) (hb:b.1=nm):jd c.bind nm=b.2.v:=by
 have h1:c.bind[i]? = some (b.1,b.2.v):=by unfold CA.bind; rw [List.getElem?_map,hi]; rfl
 obtain ⟨hlt,he⟩:=List.getElem?_eq_some_iff.1 h1
 unfold jd
 rw [← List.take_append_drop i c.bind,List.find?_append,h,List.drop_eq_getElem_cons hlt,he,List.find?_cons]
 simp [hb]
theorem CG {c:CA} {i:Nat} {b:List UInt8 × VA} {nm:List UInt8} (h:(c.bind.take i).find? (fun b=>decide (b.1=nm))=none) (hi:c.vals[i]? = some b) (hb:¬ b.1=nm):(c.bind.take (i+1)).find? (fun b=>decide (b.1=nm))=none:=by
 have h1:c.bind[i]? = some (b.1,b.2.v):=by unfold CA.bind; rw [List.getElem?_map,hi]; rfl
 rw [List.take_add_one,h1,List.find?_append,h]
 simp [hb]
theorem Iu {c:CA} {nm:List UInt8} (h:(c.bind.take c.vals.length).find? (fun b=>decide (b.1=nm))=none):jd c.bind nm=noVal:=by
 have e:c.bind.take c.vals.length=c.bind:=Ny (by unfold CA.bind; rw [List.length_map]; exact Nv _)
 rw [e] at h
 unfold jd
 rw [h]
 rfl
theorem mF {W V:List Value} {i z k:Nat} (h:(W.drop i).take z=V) (hk:k<V.length):W[i+k]? = V[k]? := by
 subst h
 have hz:k<z:=Nat.lt_of_lt_of_le hk (by rw [List.length_take]; omega)
 rw [List.getElem?_take,if_pos hz,List.getElem?_drop]
def noVA:VA:=⟨noVal,none,0⟩
theorem Ia {w0:World} {G:List Seg}:noVA.Ok w0 G:=⟨fun h=>absurd rfl h,ae,En⟩
set_option maxRecDepth 100000 in
set_option maxHeartbeats 8000000 in
theorem DL {w0:World} {R:List Seg} {G:List Seg} (A:Option Addr) (l:List (List UInt8)) (c:Nat) (nm:List UInt8) (w:World) (hS:Rc w0 G A (l.map aj)) (hG:G⊆R) (hn:l.length≤9223372036854775807) (hA:Hp w0 R w):Calls Tryz.prog 146 #[.slice A l.length c,aj nm] w fun e w'=>∃ k:Int,e= .returned (.int .i64 k)∧decide (0≤k)=decide (nm∈l)∧Hp w0 R w':=by
 refine aP Tryz.func146 O Tryz.ntmps146 ai (fun a hF=>?_)
 refine wS hF fun K1 hK1=>vX O<|vE hK1<|wQ fun K2 hK2=>wT fun K3 hK3=>vX O<|vV O (aT O Nk O O)<|vX O<|vE hK3<|wBk fun a hF=>?_
 refine bH (G:=Nat) (fun i a x=>i≤l.length∧¬ nm∈l.take i∧Fr 19 [(8,.int .i64 (i:Int)),(0,.slice A l.length c),(1,aj nm),(7,.int .i64 l.length)] a∧Hp w0 (R) x) (fun i=>l.length-i) 0 (⟨Nl _,(by simp),hF.keep [8,0,1,7] rfl,hA⟩) ?_
 clear hF
 rintro i a w2 ⟨hi,hno,hF,hA1⟩
 refine wS hF fun K4 hK4=>vV O (aF O O O O O)<|vE hK4<|wQ fun K5 hK5 a hF=>?_
 by_cases hlt:i<l.length
 ·refine aG hF O (dF ag) ?_
  obtain ⟨q,hpq⟩:∃ q,l[i]? = some q:=⟨_,List.getElem?_eq_getElem hlt⟩
  obtain ⟨bq,oq,hsq,hcq⟩:=hS.ne (i:=i) (by rw [List.length_map]; exact hlt)
  rw [hsq] at hF
  apply wp_skip
  refine hK5 _ _ ?_
  apply wp_seq_k; intro K6 hK6
  apply wp_block
  refine wS hF fun K7 hK7=>vX O<|vX O<|vE hK7<|wT fun K8 hK8=>vX O<|vX O<|vX O<|vV O (aY O Nk uC O O i rfl hlt (ad2 _ _ _))<|vV O (bV (u:=aj q) rfl (Hq.sub hA1.q (List.Subset.trans hG (dR))) O hcq i (by rw [List.length_map]; exact hlt) rfl (by rw [List.getElem?_map,hpq]; rfl) uV) fun a hF=>?_
  refine vR hF<|vV O (fA O O O O O)<|vE hK8 fun a hF=>?_
  rcases tf (bJ .eql nm q) with hq | hq
  ·refine au hF O hq ?_
   apply wp_skip
   refine hK6 _ _ ?_
   refine wp_region_lit ?_
   refine vR hF<|vV O (bT O O O (Np _ ag))<|vX O fun a hF=>?_
   refine aH ?_
   rw [← hsq] at hF
   exact ⟨i+1,ag,ag,xE hno hpq (yN hq),hF.keep [8,0,1,7] rfl,hA1⟩
  ·refine aG hF O hq ?_
   refine wS hF fun K9 hK9=>vX O<|vX O<|vE hK9 fun a hF=>?_
   apply wp_ret
   simp only [Exit.then,Exit.inBlock]
   refine aO hF Tryz.results146 O ?_
   exact ⟨_,rfl,by rw [decide_eq_true (show nm∈l from yL hq ▸ List.mem_of_getElem? hpq)]; exact decide_eq_true ag,hA1⟩
 ·refine au hF O (dE ag) ?_
  obtain rfl:i=l.length:=by omega
  rw [List.take_length] at hno
  apply wp_exit
  refine hK2 _ _ ?_
  refine wS hF fun K10 hK10=>vX O<|vE hK10 fun a hF=>?_
  apply wp_ret
  refine aO hF Tryz.results146 O ?_
  exact ⟨_,rfl,by rw [decide_eq_false hno]; rfl,hA1⟩
set_option maxRecDepth 100000 in
set_option maxHeartbeats 8000000 in
theorem lD {w0:World} {R:List Seg} {G:List Seg} (A:Option Addr) (l:List (List UInt8)) (c:Nat) (nm:List UInt8) (w:World) (hS:Rc w0 G A (l.map aj)) (hG:G⊆R) (hn:l.length≤9223372036854775807) (hA:Hp w0 R w):Calls Tryz.prog 90 #[.slice A l.length c,aj nm] w fun e w'=>e= .returned (.bool (decide (nm∈l)))∧Hp w0 R w':=by
 refine aP Tryz.func90 O Tryz.ntmps90 ai (fun a hF=>?_)
 refine wS hF fun K1 hK1=>vX O<|vE hK1<|wT fun K2 hK2=>vX O<|vX O fun a hF=>?_
 refine ax O (fun K hK=>ay hF O ae C9 rfl rfl ?_)
 with_reducible refine (DL A l c nm _ hS (List.Subset.trans hG (dR)) hn hA).mono ?_
 rintro e' w1 ⟨k,rfl,hk,hA2⟩
 refine ⟨_,rfl,fun a hF=>hK _ _ ?_⟩
 replace hA2:Hp w0 (R) w1:=hA2
 refine vR hF<|vV O (aF O O O O (hk))<|vX O<|vE hK2 fun a hF=>?_
 apply wp_ret
 refine aO hF Tryz.results90 O ?_
 exact ⟨rfl,hA2⟩
set_option maxRecDepth 100000 in
set_option maxHeartbeats 8000000 in
theorem G9 {w0:World} {R:List Seg} {G:List Seg} (ca:CA) (nm:List UInt8) (w:World) (hC:ca.Ok w0 G) (hG:G⊆R) (hA:Hp w0 R w):Calls Tryz.prog 89 #[.agg ca.cells.toArray,aj nm] w fun e w'=>∃ va:VA,e= .returned (.agg va.cells.toArray)∧va.v=jd ca.bind nm∧va.Ok w0 G∧Hp w0 R w':=by
 have h32:=hC.h32
 have hvn:=hC.vn
 refine aP Tryz.func89 O Tryz.ntmps89 ai (fun a hF=>?_)
 refine wp_seq_k fun K1 hK1=>wp_region_lit ?_
 refine ax O (fun K hK=>ed (cs:=ca.cells) hF O ae rfl hA O (fun b1 w2 a hb1 hF hA3=>hK _ _ ?_))
 refine ax O (fun K hK=>dC hF O ae rfl hA3 (zQ) (fun b4 w5 a hb4 hF hA6=>hK _ _ ?_))
 refine aH<|hK1 _ _ ?_
 apply wp_seq_k; intro K2 hK2
 refine wS hF fun K3 hK3=>vV O (yf 35 rfl NL O DI O)<|vV O (aU (u:= .slice ca.vA ca.vals.length ca.vC) rfl hA6.q O 1 O (Bl h32 0) Ej)<|vV O (aT O Tryz.underlying50 O O)<|vX O<|vE hK3<|wBk fun a hF=>?_
 refine bH (G:=Nat) (fun i a x=>i≤ca.vals.length∧(ca.bind.take i).find? (fun b=>decide (b.1=nm))=none∧Fr 22 [(10,.int .i64 (i:Int)),(1,aj nm),(4,.pointer (some ⟨b4,0,none⟩)),(8,.slice ca.vA ca.vals.length ca.vC),(9,.int .i64 ca.vals.length)] a∧Hp w0 ([row b4 25 [.int .i64 0,.int .i64 0,.string (⟨#[]⟩),.slice none 0 0]]::[row b1 52 ca.cells]::R) x) (fun i=>ca.vals.length-i) 0 (⟨Nl _,rfl,hF.keep [10,1,4,8,9] rfl,hA6⟩) ?_
 clear hF
 rintro i a w8 ⟨hi,hno,hF,hA7⟩
 refine wS hF fun K4 hK4=>vV O (aF O O O O O)<|vE hK4<|wQ fun K5 hK5 a hF=>?_
 by_cases hlt:i<ca.vals.length
 ·refine aG hF O (dF ag) ?_
  obtain ⟨⟨bn,va⟩,hp⟩:∃ q,ca.vals[i]? = some q:=⟨_,List.getElem?_eq_getElem hlt⟩
  obtain ⟨hat,hle⟩:=Go.Dk.flat_at (z:=5) (Ws:=ca.vals.map oJ) (V:=oJ (bn,va)) (i:=i) (fun V hV=>by obtain ⟨u,_,rfl⟩:=List.mem_map.1 hV; rfl) (by rw [List.getElem?_map,hp]; rfl)
  obtain ⟨b,o,hsA,hc⟩:=hC.vr.ne (i:=i*5) ag
  have hva:=hC.vok _ (List.mem_of_getElem? hp)
  rw [hsA] at hF
  apply wp_skip
  refine hK5 _ _ ?_
  apply wp_seq_k; intro K6 hK6
  apply wp_block
  refine wS hF fun K7 hK7=>vV O (aY O Tryz.underlying50 wV O O i rfl hlt rfl)<|vV O (dK (new:=oJ (bn,va)) O (Hq.sub hA7.q (List.Subset.trans hG (bM (bM (dR))))) O hc (i*5) hle rfl hat DT) fun a hF=>?_
  refine ax O (fun K hK=>dC hF O ae rfl hA7 (Dn) (fun b9 w10 a hb9 hF hA11=>hK _ _ ?_))
  refine ax O (fun K hK=>bG (new:=[aj bn,.int .i64 va.v.k,.int .i64 va.v.n,aj va.v.t,.slice va.sA va.v.s.length va.sC]) hF O O hA11 O O 0 O O (by simp [Value.oneCell']) wV (fun w12 hA13=>hK _ _ ?_))
  replace hA13:Hp w0 ([row b9 76 [aj bn,.int .i64 va.v.k,.int .i64 va.v.n,aj va.v.t,.slice va.sA va.v.s.length va.sC]]::[row b4 25 [.int .i64 0,.int .i64 0,.string (⟨#[]⟩),.slice none 0 0]]::[row b1 52 ca.cells]::R) w12:=hA13
  refine aH<|hK7 _ _ ?_
  refine wS hF fun K8 hK8=>vV O (yf 0 O Tryz.underlying76 O uC O)<|vV O (aU O hA13.q O 0 O O uV)<|vX O<|vV O (fA O O O O O)<|vE hK8 fun a hF=>?_
  rcases tf (bJ .eql bn nm) with hq | hq
  ·refine au hF O hq ?_
   apply wp_skip
   refine hK6 _ _ ?_
   refine wp_region_lit ?_
   refine vR hF<|vV O (bT O O O (Np _ ag))<|vX O fun a hF=>?_
   refine aH ?_
   rw [← hsA] at hF
   have hA14:Hp w0 ([row b4 25 [.int .i64 0,.int .i64 0,.string (⟨#[]⟩),.slice none 0 0]]::[row b1 52 ca.cells]::R) w12:=hpS 3 [1,2] [0] hA13 rfl
   exact ⟨i+1,ag,ag,CG hno hp (yN hq),hF.keep [10,1,4,8,9] rfl,hA14⟩
  ·refine aG hF O hq ?_
   refine wS hF fun K9 hK9=>vV O (yf 1 O Tryz.underlying76 O nD O)<|vV O (cZ (new:=[.int .i64 va.v.k,.int .i64 va.v.n,aj va.v.t,.slice va.sA va.v.s.length va.sC]) O hA13.q O 0 O Ho ai rfl) fun a hF=>?_
   refine ax O (fun K hK=>bG (new:=[.int .i64 va.v.k,.int .i64 va.v.n,aj va.v.t,.slice va.sA va.v.s.length va.sC]) hF O O hA13 O O 1 O O (by simp [Value.oneCell']) nD (fun w15 hA16=>hK _ _ ?_))
   replace hA16:Hp w0 ([row b9 76 [aj bn,.int .i64 va.v.k,.int .i64 va.v.n,aj va.v.t,.slice va.sA va.v.s.length va.sC]]::[row b4 25 [.int .i64 va.v.k,.int .i64 va.v.n,aj va.v.t,.slice va.sA va.v.s.length va.sC]]::[row b1 52 ca.cells]::R) w15:=hA16
   refine aH<|hK9 _ _ ?_
   apply wp_ret
   simp only [Exit.then,Exit.inBlock]
   refine qj hF Tryz.results89 hA16.q O 1 O (by exact Ho) ?_
   have hA17:Hp w0 (R) w15:=hpS 3 [] [0,1,2] hA16 rfl
   exact ⟨va,rfl,(Iw hno hp (yL hq)).symm,hva,hA17⟩
 ·refine au hF O (dE ag) ?_
  obtain rfl:i=ca.vals.length:=by omega
  apply wp_exit
  refine hK2 _ _ ?_
  refine wS hF fun K10 hK10=>vV O (eX O vO) fun a hF=>?_
  refine ax O (fun K hK=>bG (new:=[.int .i64 0,.int .i64 0,aj [],.slice none 0 0]) hF O O hA7 O O 0 O O (by simp [Value.oneCell']) nD (fun w18 hA19=>hK _ _ ?_))
  replace hA19:Hp w0 ([row b4 25 [.int .i64 0,.int .i64 0,aj [],.slice none 0 0]]::[row b1 52 ca.cells]::R) w18:=hA19
  refine aH<|hK10 _ _ ?_
  apply wp_ret
  refine qj hF Tryz.results89 hA19.q O 0 O (by exact Ho) ?_
  have hA20:Hp w0 (R) w18:=hpS 2 [] [0,1] hA19 rfl
  exact ⟨noVA,rfl,(Iu hno).symm,Ia,hA20⟩
end Go.Proofs.YtepbmdlgdaedpaaGreatDoor
