/- Lists of names looked through; what a case holds. -/
import Derived.Test.YtepbmdlgdaedpaaGreatDoorEvT
import Derived.Test.YtepbmdlgdaedpaaGreatDoorEv9
/- Lists of names looked through; what a case holds. -/
namespace Go.Proofs.YtepbmdlgdaedpaaGreatDoor
open Go.RowKit Go.Dk
theorem pU:bD Tryz.prog 50=true:=af
theorem GX:isRow Tryz.prog 76 5=true:=af
theorem pz:(Tryz.prog.info? 50).map (·.size)=some 1:=af
theorem pq:(Tryz.prog.info? 76).map (·.size)=some 5:=af
theorem FH:aP Tryz.prog 146:=⟨_,Tryz.func146,af,af⟩
theorem F8:bT Tryz.prog 76 (.agg ([.string (⟨#[]⟩),.int .i64 0,.int .i64 0,.string (⟨#[]⟩),.slice none 0 0]:List Value).toArray):=by unfold bT; kernel_rfl
structure CA where
 name:List UInt8
 typ:List UInt8
 cnt:Int
 ch:List UInt8
 vals:List (List UInt8 × VA)
 vA:Option Addr
 vC:Nat
 opn:List (List UInt8)
 oA:Option Addr
 oC:Nat
 clo:List (List UInt8)
 cA:Option Addr
 cC:Nat
 rea:List (List UInt8)
 rA:Option Addr
 rC:Nat
abbrev gz (b:List UInt8 × VA):List Value:=ak b.1::b.2.cells
abbrev CA.tl (c:CA):List Value:=[.slice c.vA c.vals.length c.vC,.slice c.oA c.opn.length c.oC,.slice c.cA c.clo.length c.cC,.slice c.rA c.rea.length c.rC]
abbrev CA.cells (c:CA):List Value:=[ak c.name,ak c.typ,.int .i64 c.cnt]++(dc c.ch++c.tl)
def CA.bind (c:CA):List (List UInt8 × Val):=c.vals.map fun b=>(b.1,b.2.v)
structure CA.Ok (w0:World) (G:List Seg) (c:CA):Prop where
 h32:c.ch.length=32
 vok:∀ b∈c.vals,b.2.Ok w0 G
 vr:Rc w0 G c.vA (c.vals.map gz).flatten
 vn:c.vals.length≤9223372036854775807
 opr:Rc w0 G c.oA (c.opn.map ak)
 opl:c.opn.length≤9223372036854775807
 clr:Rc w0 G c.cA (c.clo.map ak)
 cll:c.clo.length≤9223372036854775807
 rer:Rc w0 G c.rA (c.rea.map ak)
 rel:c.rea.length≤9223372036854775807
theorem fB {c:CA} (h:c.ch.length=32) (k:Nat):c.cells[35+k]? = c.tl[k]? := by
 rw [List.getElem?_append_right (by show 3≤35+k; omega),List.getElem?_append_right (by rw [aN,h]; show 32≤35+k-3; omega),aN,h]
 congr 1
 show 35+k-3-32=k
 omega
theorem dY {c:CA} (h:c.ch.length=32):c.cells.length=39:=by
 rw [List.length_append,List.length_append,aN,h]; rfl
theorem uD {n:Int} {ch:List UInt8} (h:ch.length=32):(Value.int .i64 n::dc ch).length=33:=by rw [List.length_cons,aN,h]
theorem tq {a b:List UInt8} (h:bI .eql a b=true):a=b:=by unfold bI at h; simpa using h
theorem tC {a b:List UInt8} (h:bI .eql a b=false):¬ a=b:=by unfold bI at h; simpa using h
theorem nM {α:Type} {l:List α} {i:Nat} {x y:α} (h:¬ x∈l.take i) (hi:l[i]? = some y) (hn:¬ x=y):¬ x∈l.take (i+1):=by
 rw [List.take_add_one,hi]
 simp only [Option.toList_some,List.mem_append,List.mem_singleton,not_or]
 exact ⟨h,hn⟩
theorem DC {c:CA} {i:Nat} {b:List UInt8 × VA} {nm:List UInt8} (h:(c.bind.take i).find? (fun b=>decide (b.1=nm))=none) (hi:c.vals[i]? = some b) (hb:b.1=nm):jL c.bind nm=b.2.v:=by
 have h1:c.bind[i]? = some (b.1,b.2.v):=by unfold CA.bind; rw [List.getElem?_map,hi]; rfl
 obtain ⟨hlt,he⟩:=List.getElem?_eq_some_iff.1 h1
 unfold jL
 rw [← List.take_append_drop i c.bind,List.find?_append,h,List.drop_eq_getElem_cons hlt,he,List.find?_cons]
 simp [hb]
theorem wH {c:CA} {i:Nat} {b:List UInt8 × VA} {nm:List UInt8} (h:(c.bind.take i).find? (fun b=>decide (b.1=nm))=none) (hi:c.vals[i]? = some b) (hb:¬ b.1=nm):(c.bind.take (i+1)).find? (fun b=>decide (b.1=nm))=none:=by
 have h1:c.bind[i]? = some (b.1,b.2.v):=by unfold CA.bind; rw [List.getElem?_map,hi]; rfl
 rw [List.take_add_one,h1,List.find?_append,h]
 simp [hb]
theorem Dz {c:CA} {nm:List UInt8} (h:(c.bind.take c.vals.length).find? (fun b=>decide (b.1=nm))=none):jL c.bind nm=noVal:=by
 have e:c.bind.take c.vals.length=c.bind:=Qz (by unfold CA.bind; rw [List.length_map]; exact Qw _)
 rw [e] at h
 unfold jL
 rw [h]
 rfl
theorem Fa {W V:List Value} {i z k:Nat} (h:(W.drop i).take z=V) (hk:k<V.length):W[i+k]? = V[k]? := by
 subst h
 have hz:k<z:=Nat.lt_of_lt_of_le hk (by rw [List.length_take]; omega)
 rw [List.getElem?_take,if_pos hz,List.getElem?_drop]
theorem E8 {W V:List Value} {i z k m:Nat} (h:(W.drop i).take z=V) (hk:k+m=z):(W.drop (i+k)).take m=V.drop k:=by
 subst h
 rw [List.drop_take,List.drop_drop]
 congr 1
 omega
def noVA:VA:=⟨noVal,none,0⟩
theorem Dt {w0:World} {G:List Seg}:noVA.Ok w0 G:=⟨fun h=>absurd rfl h,ae,H6⟩
set_option maxRecDepth 100000 in
set_option maxHeartbeats 8000000 in
theorem GH {w0:World} {R:List Seg} {G:List Seg} (A:Option Addr) (l:List (List UInt8)) (c:Nat) (nm:List UInt8) (w:World) (hS:Rc w0 G A (l.map ak)) (hG:G⊆R) (hn:l.length≤9223372036854775807) (hA:Hp w0 R w):Calls Tryz.prog 146 #[.slice A l.length c,ak nm] w fun e w'=>∃ k:Int,e= .returned (.int .i64 k)∧decide (0≤k)=decide (nm∈l)∧Hp w0 R w':=by
 refine aQ Tryz.func146 O Tryz.ntmps146 ai (fun a hF=>?_)
 refine wS hF fun K1 hK1=>vX O<|vE hK1<|wQ fun K2 hK2=>wT fun K3 hK3=>vX O<|vV O (aT O Qr O O)<|vX O<|vE hK3<|wBk fun a hF=>?_
 refine bG (G:=Nat) (fun i a x=>i≤l.length∧¬ nm∈l.take i∧Fr 19 [(8,.int .i64 (i:Int)),(0,.slice A l.length c),(1,ak nm),(7,.int .i64 l.length)] a∧Hp w0 (R) x) (fun i=>l.length-i) 0 (⟨Qs _,(by simp),hF.keep [8,0,1,7] rfl,hA⟩) ?_
 clear hF
 rintro i a w2 ⟨hi,hno,hF,hA1⟩
 refine wS hF fun K4 hK4=>vV O (aJ O O O O O)<|vE hK4<|wQ fun K5 hK5 a hF=>?_
 by_cases hlt:i<l.length
 ·refine aG hF O (dA ag) ?_
  obtain ⟨q,hpq⟩:∃ q,l[i]? = some q:=⟨_,List.getElem?_eq_getElem hlt⟩
  obtain ⟨bq,oq,hsq,hcq⟩:=hS.ne (i:=i) (by rw [List.length_map]; exact hlt)
  rw [hsq] at hF
  apply wp_skip
  refine hK5 _ _ ?_
  apply wp_seq_k; intro K6 hK6
  apply wp_block
  refine wS hF fun K7 hK7=>vX O<|vX O<|vE hK7<|wT fun K8 hK8=>vX O<|vX O<|vX O<|vV O (bV O Qr xq O O i rfl hlt (ad2 _ _ _))<|vV O (dN (u:=ak q) rfl (Hq.sub hA1.q (List.Subset.trans hG (dD))) O hcq i (by rw [List.length_map]; exact hlt) rfl (by rw [List.getElem?_map,hpq]; rfl) xM) fun a hF=>?_
  refine vR hF<|vV O (eF O O O O O)<|vE hK8 fun a hF=>?_
  rcases tf (bI .eql nm q) with hq | hq
  ·refine au hF O hq ?_
   apply wp_skip
   refine hK6 _ _ ?_
   refine wp_region_lit ?_
   refine vR hF<|vV O (bH O O O (Qu _ ag))<|vX O fun a hF=>?_
   refine aK ?_
   rw [← hsq] at hF
   exact ⟨i+1,ag,ag,nM hno hpq (tC hq),hF.keep [8,0,1,7] rfl,hA1⟩
  ·refine aG hF O hq ?_
   refine wS hF fun K9 hK9=>vX O<|vX O<|vE hK9 fun a hF=>?_
   apply wp_ret
   simp only [Exit.then,Exit.inBlock]
   refine aO hF Tryz.results146 O ?_
   exact ⟨_,rfl,by rw [decide_eq_true (show nm∈l from tq hq ▸ List.mem_of_getElem? hpq)]; exact decide_eq_true ag,hA1⟩
 ·refine au hF O (dm ag) ?_
  obtain rfl:i=l.length:=by omega
  rw [List.take_length] at hno
  apply wp_exit
  refine hK2 _ _ ?_
  refine wS hF fun K10 hK10=>vX O<|vE hK10 fun a hF=>?_
  apply wp_ret
  refine aO hF Tryz.results146 O ?_
  exact ⟨_,rfl,by rw [decide_eq_false hno]; rfl,hA1⟩
set_option maxRecDepth 100000 in
set_option maxHeartbeats 8000000 in
theorem nC {w0:World} {R:List Seg} {G:List Seg} (A:Option Addr) (l:List (List UInt8)) (c:Nat) (nm:List UInt8) (w:World) (hS:Rc w0 G A (l.map ak)) (hG:G⊆R) (hn:l.length≤9223372036854775807) (hA:Hp w0 R w):Calls Tryz.prog 90 #[.slice A l.length c,ak nm] w fun e w'=>e= .returned (.bool (decide (nm∈l)))∧Hp w0 R w':=by
 refine aQ Tryz.func90 O Tryz.ntmps90 ai (fun a hF=>?_)
 refine wS hF fun K1 hK1=>vX O<|vE hK1<|wT fun K2 hK2=>vX O<|vX O fun a hF=>?_
 refine ax O (fun K hK=>ay hF O ae FH rfl rfl ?_)
 with_reducible refine (GH A l c nm _ hS (List.Subset.trans hG (dD)) hn hA).mono ?_
 rintro e' w1 ⟨k,rfl,hk,hA2⟩
 refine ⟨_,rfl,fun a hF=>hK _ _ ?_⟩
 replace hA2:Hp w0 (R) w1:=hA2
 refine vR hF<|vV O (aJ O O O O (hk))<|vX O<|vE hK2 fun a hF=>?_
 apply wp_ret
 refine aO hF Tryz.results90 O ?_
 exact ⟨rfl,hA2⟩
set_option maxRecDepth 100000 in
set_option maxHeartbeats 8000000 in
theorem GI {w0:World} {R:List Seg} {G:List Seg} (A:Option Addr) (l:List (List UInt8)) (c:Nat) (nm:List UInt8) (w:World) (hS:Rc w0 G A (l.map ak)) (hG:G⊆R) (hn:l.length≤9223372036854775807) (hA:Hp w0 R w):Calls Tryz.prog 116 #[.slice A l.length c,ak nm] w fun e w'=>e= .returned (.bool (decide (nm∈l)))∧Hp w0 R w':=by
 refine aQ Tryz.func116 O Tryz.ntmps116 ai (fun a hF=>?_)
 refine wS hF fun K1 hK1=>vX O<|vE hK1<|wQ fun K2 hK2=>wT fun K3 hK3=>vX O<|vE hK3<|wBk fun a hF=>?_
 refine bG (G:=Nat) (fun i a x=>i≤l.length∧¬ nm∈l.take i∧Fr 18 [(5,.int .i64 (i:Int)),(0,.slice A l.length c),(1,ak nm)] a∧Hp w0 (R) x) (fun i=>l.length-i) 0 (⟨Qs _,(by simp),hF.keep [5,0,1] rfl,hA⟩) ?_
 clear hF
 rintro i a w2 ⟨hi,hno,hF,hA1⟩
 apply wp_seq_k; intro K4 hK4
 refine wS hF fun K5 hK5=>vX O<|vX O<|vV O (aT O Qr O O)<|vV O (aJ O O O O O)<|vE hK5 fun a hF=>?_
 by_cases hlt:i<l.length
 ·refine aG hF O (dA ag) ?_
  obtain ⟨q,hpq⟩:∃ q,l[i]? = some q:=⟨_,List.getElem?_eq_getElem hlt⟩
  obtain ⟨bq,oq,hsq,hcq⟩:=hS.ne (i:=i) (by rw [List.length_map]; exact hlt)
  rw [hsq] at hF
  apply wp_skip
  refine hK4 _ _ ?_
  apply wp_seq_k; intro K6 hK6
  apply wp_block
  refine wS hF fun K7 hK7=>vX O<|vX O<|vV O (bV O Qr xq O O i rfl hlt (ad2 _ _ _))<|vV O (dN (u:=ak q) rfl (Hq.sub hA1.q (List.Subset.trans hG (dD))) O hcq i (by rw [List.length_map]; exact hlt) rfl (by rw [List.getElem?_map,hpq]; rfl) xM) fun a hF=>?_
  refine vR hF<|vX O<|vV O (eF O O O O O)<|vE hK7 fun a hF=>?_
  rcases tf (bI .eql q nm) with hq | hq
  ·refine au hF O hq ?_
   apply wp_skip
   refine hK6 _ _ ?_
   refine wp_region_lit ?_
   refine vR hF<|vX O<|vV O (bH O O O (Qu _ ag))<|vX O fun a hF=>?_
   refine aK ?_
   rw [← hsq] at hF
   exact ⟨i+1,ag,ag,nM hno hpq (fun e=>tC hq e.symm),hF.keep [5,0,1] rfl,hA1⟩
  ·refine aG hF O hq ?_
   refine wS hF fun K8 hK8=>vX O<|vE hK8 fun a hF=>?_
   apply wp_ret
   simp only [Exit.then,Exit.inBlock]
   refine aO hF Tryz.results116 O ?_
   exact ⟨by rw [decide_eq_true (show nm∈l from (tq hq) ▸ List.mem_of_getElem? hpq)],hA1⟩
 ·refine au hF O (dm ag) ?_
  obtain rfl:i=l.length:=by omega
  rw [List.take_length] at hno
  apply wp_exit
  refine hK2 _ _ ?_
  refine wS hF fun K9 hK9=>vX O<|vE hK9 fun a hF=>?_
  apply wp_ret
  refine aO hF Tryz.results116 O ?_
  exact ⟨by rw [decide_eq_false hno],hA1⟩
set_option maxRecDepth 100000 in
set_option maxHeartbeats 8000000 in
theorem Ko {w0:World} {R:List Seg} {G:List Seg} (ca:CA) (nm:List UInt8) (w:World) (hC:ca.Ok w0 G) (hG:G⊆R) (hA:Hp w0 R w):Calls Tryz.prog 89 #[.agg ca.cells.toArray,ak nm] w fun e w'=>∃ va:VA,e= .returned (.agg va.cells.toArray)∧va.v=jL ca.bind nm∧va.Ok w0 G∧Hp w0 R w':=by
 have h32:=hC.h32
 have hvn:=hC.vn
 refine aQ Tryz.func89 O Tryz.ntmps89 ai (fun a hF=>?_)
 refine wp_seq_k fun K1 hK1=>wp_region_lit ?_
 refine ax O (fun K hK=>dL (cs:=ca.cells) hF O ae rfl hA O (fun b1 w2 a hb1 hF hA3=>hK _ _ ?_))
 refine ax O (fun K hK=>dB hF O ae rfl hA3 (CQ) (fun b4 w5 a hb4 hF hA6=>hK _ _ ?_))
 refine aK<|hK1 _ _ ?_
 apply wp_seq_k; intro K2 hK2
 refine wS hF fun K3 hK3=>vV O (yf 35 rfl QL O pz O)<|vV O (aX (u:= .slice ca.vA ca.vals.length ca.vC) rfl hA6.q O 1 O (fB h32 0) pU)<|vV O (aT O QQ O O)<|vX O<|vE hK3<|wBk fun a hF=>?_
 refine bG (G:=Nat) (fun i a x=>i≤ca.vals.length∧(ca.bind.take i).find? (fun b=>decide (b.1=nm))=none∧Fr 22 [(10,.int .i64 (i:Int)),(1,ak nm),(4,.pointer (some ⟨b4,0,none⟩)),(8,.slice ca.vA ca.vals.length ca.vC),(9,.int .i64 ca.vals.length)] a∧Hp w0 ([row b4 25 [.int .i64 0,.int .i64 0,.string (⟨#[]⟩),.slice none 0 0]]::[row b1 52 ca.cells]::R) x) (fun i=>ca.vals.length-i) 0 (⟨Qs _,rfl,hF.keep [10,1,4,8,9] rfl,hA6⟩) ?_
 clear hF
 rintro i a w8 ⟨hi,hno,hF,hA7⟩
 refine wS hF fun K4 hK4=>vV O (aJ O O O O O)<|vE hK4<|wQ fun K5 hK5 a hF=>?_
 by_cases hlt:i<ca.vals.length
 ·refine aG hF O (dA ag) ?_
  obtain ⟨⟨bn,va⟩,hp⟩:∃ q,ca.vals[i]? = some q:=⟨_,List.getElem?_eq_getElem hlt⟩
  obtain ⟨hat,hle⟩:=Go.Dk.flat_at (z:=5) (Ws:=ca.vals.map gz) (V:=gz (bn,va)) (i:=i) (fun V hV=>by obtain ⟨u,_,rfl⟩:=List.mem_map.1 hV; rfl) (by rw [List.getElem?_map,hp]; rfl)
  obtain ⟨b,o,hsA,hc⟩:=hC.vr.ne (i:=i*5) ag
  have hva:=hC.vok _ (List.mem_of_getElem? hp)
  rw [hsA] at hF
  apply wp_skip
  refine hK5 _ _ ?_
  apply wp_seq_k; intro K6 hK6
  apply wp_block
  refine wS hF fun K7 hK7=>vV O (bV O QQ pq O O i rfl hlt rfl)<|vV O (jv (new:=gz (bn,va)) O (Hq.sub hA7.q (List.Subset.trans hG (bJ (bJ (dD))))) O hc (i*5) hle rfl hat GX) fun a hF=>?_
  refine ax O (fun K hK=>dB hF O ae rfl hA7 (F8) (fun b9 w10 a hb9 hF hA11=>hK _ _ ?_))
  refine ax O (fun K hK=>bu (new:=[ak bn,.int .i64 va.v.k,.int .i64 va.v.n,ak va.v.t,.slice va.sA va.v.s.length va.sC]) hF O O hA11 O O 0 O O (by simp [Value.oneCell']) pq (fun w12 hA13=>hK _ _ ?_))
  replace hA13:Hp w0 ([row b9 76 [ak bn,.int .i64 va.v.k,.int .i64 va.v.n,ak va.v.t,.slice va.sA va.v.s.length va.sC]]::[row b4 25 [.int .i64 0,.int .i64 0,.string (⟨#[]⟩),.slice none 0 0]]::[row b1 52 ca.cells]::R) w12:=hA13
  refine aK<|hK7 _ _ ?_
  refine wS hF fun K8 hK8=>vV O (yf 0 O QP O xq O)<|vV O (aX O hA13.q O 0 O O xM)<|vX O<|vV O (eF O O O O O)<|vE hK8 fun a hF=>?_
  rcases tf (bI .eql bn nm) with hq | hq
  ·refine au hF O hq ?_
   apply wp_skip
   refine hK6 _ _ ?_
   refine wp_region_lit ?_
   refine vR hF<|vV O (bH O O O (Qu _ ag))<|vX O fun a hF=>?_
   refine aK ?_
   rw [← hsA] at hF
   have hA14:Hp w0 ([row b4 25 [.int .i64 0,.int .i64 0,.string (⟨#[]⟩),.slice none 0 0]]::[row b1 52 ca.cells]::R) w12:=hpS 3 [1,2] [0] hA13 rfl
   exact ⟨i+1,ag,ag,wH hno hp (tC hq),hF.keep [10,1,4,8,9] rfl,hA14⟩
  ·refine aG hF O hq ?_
   refine wS hF fun K9 hK9=>vV O (yf 1 O QP O pF O)<|vV O (cO (new:=[.int .i64 va.v.k,.int .i64 va.v.n,ak va.v.t,.slice va.sA va.v.s.length va.sC]) O hA13.q O 0 O Ku ai rfl) fun a hF=>?_
   refine ax O (fun K hK=>bu (new:=[.int .i64 va.v.k,.int .i64 va.v.n,ak va.v.t,.slice va.sA va.v.s.length va.sC]) hF O O hA13 O O 1 O O (by simp [Value.oneCell']) pF (fun w15 hA16=>hK _ _ ?_))
   replace hA16:Hp w0 ([row b9 76 [ak bn,.int .i64 va.v.k,.int .i64 va.v.n,ak va.v.t,.slice va.sA va.v.s.length va.sC]]::[row b4 25 [.int .i64 va.v.k,.int .i64 va.v.n,ak va.v.t,.slice va.sA va.v.s.length va.sC]]::[row b1 52 ca.cells]::R) w15:=hA16
   refine aK<|hK9 _ _ ?_
   apply wp_ret
   simp only [Exit.then,Exit.inBlock]
   refine lm hF Tryz.results89 hA16.q O 1 O (by exact Ku) ?_
   have hA17:Hp w0 (R) w15:=hpS 3 [] [0,1,2] hA16 rfl
   exact ⟨va,rfl,(DC hno hp (tq hq)).symm,hva,hA17⟩
 ·refine au hF O (dm ag) ?_
  obtain rfl:i=ca.vals.length:=by omega
  apply wp_exit
  refine hK2 _ _ ?_
  refine wS hF fun K10 hK10=>vV O (fU O uC) fun a hF=>?_
  refine ax O (fun K hK=>bu (new:=[.int .i64 0,.int .i64 0,ak [],.slice none 0 0]) hF O O hA7 O O 0 O O (by simp [Value.oneCell']) pF (fun w18 hA19=>hK _ _ ?_))
  replace hA19:Hp w0 ([row b4 25 [.int .i64 0,.int .i64 0,ak [],.slice none 0 0]]::[row b1 52 ca.cells]::R) w18:=hA19
  refine aK<|hK10 _ _ ?_
  apply wp_ret
  refine lm hF Tryz.results89 hA19.q O 0 O (by exact Ku) ?_
  have hA20:Hp w0 (R) w18:=hpS 2 [] [0,1] hA19 rfl
  exact ⟨noVA,rfl,(Dz hno).symm,Dt,hA20⟩
set_option maxRecDepth 100000 in
set_option maxHeartbeats 8000000 in
theorem GK {w0:World} {R:List Seg} {G:List Seg} (ca:CA) (nm:List UInt8) (w:World) (hC:ca.Ok w0 G) (hG:G⊆R) (hA:Hp w0 R w):Calls Tryz.prog 115 #[.agg ca.cells.toArray,ak nm] w fun e w'=>∃ va:VA,e= .returned (.agg va.cells.toArray)∧va.v=jL ca.bind nm∧va.Ok w0 G∧Hp w0 R w':=by
 have h32:=hC.h32
 have hvn:=hC.vn
 refine aQ Tryz.func115 O Tryz.ntmps115 ai (fun a hF=>?_)
 refine wp_seq_k fun K1 hK1=>wp_region_lit ?_
 refine ax O (fun K hK=>dL (cs:=ca.cells) hF O ae rfl hA O (fun b1 w2 a hb1 hF hA3=>hK _ _ ?_))
 refine ax O (fun K hK=>dB hF O ae rfl hA3 (CQ) (fun b4 w5 a hb4 hF hA6=>hK _ _ ?_))
 refine aK<|hK1 _ _ ?_
 apply wp_seq_k; intro K2 hK2
 refine wS hF fun K3 hK3=>vX O<|vE hK3<|wBk fun a hF=>?_
 refine bG (G:=Nat) (fun i a x=>i≤ca.vals.length∧(ca.bind.take i).find? (fun b=>decide (b.1=nm))=none∧Fr 28 [(5,.int .i64 (i:Int)),(1,ak nm),(2,.pointer (some ⟨b1,0,none⟩)),(4,.pointer (some ⟨b4,0,none⟩))] a∧Hp w0 ([row b4 25 [.int .i64 0,.int .i64 0,.string (⟨#[]⟩),.slice none 0 0]]::[row b1 52 ca.cells]::R) x) (fun i=>ca.vals.length-i) 0 (⟨Qs _,rfl,hF.keep [5,1,2,4] rfl,hA6⟩) ?_
 clear hF
 rintro i a w8 ⟨hi,hno,hF,hA7⟩
 apply wp_seq_k; intro K4 hK4
 refine wS hF fun K5 hK5=>vX O<|vV O (yf 35 rfl QL O pz O)<|vV O (aX (u:= .slice ca.vA ca.vals.length ca.vC) rfl hA7.q O 1 O (fB h32 0) pU)<|vV O (aT O QQ O O)<|vV O (aJ O O O O O)<|vE hK5 fun a hF=>?_
 by_cases hlt:i<ca.vals.length
 ·refine aG hF O (dA ag) ?_
  obtain ⟨⟨bn,va⟩,hp⟩:∃ q,ca.vals[i]? = some q:=⟨_,List.getElem?_eq_getElem hlt⟩
  obtain ⟨hat,hle⟩:=Go.Dk.flat_at (z:=5) (Ws:=ca.vals.map gz) (V:=gz (bn,va)) (i:=i) (fun V hV=>by obtain ⟨u,_,rfl⟩:=List.mem_map.1 hV; rfl) (by rw [List.getElem?_map,hp]; rfl)
  obtain ⟨b,o,hsA,hc⟩:=hC.vr.ne (i:=i*5) ag
  have hva:=hC.vok _ (List.mem_of_getElem? hp)
  apply wp_skip
  refine hK4 _ _ ?_
  apply wp_seq_k; intro K6 hK6
  apply wp_block
  refine wS hF fun K7 hK7=>vV O (yf 35 rfl QL O pz O)<|vV O (aX (u:= .slice (some ⟨b,o,none⟩) ca.vals.length ca.vC) rfl hA7.q O 1 O (by rw [← hsA]; exact fB h32 0) pU) fun a hF=>?_
  refine vR hF<|vX O<|vV O (bV O QQ pq O O i rfl hlt rfl)<|vV O (xe O QP O xq ae rfl rfl)<|vV O (dN (u:=ak bn) rfl (Hq.sub hA7.q (List.Subset.trans hG (bJ (bJ (dD))))) O hc (i*5) ag rfl (Fa (k:=0) hat (by show 0<5; decide)) xM) fun a hF=>?_
  refine vR hF<|vX O<|vV O (eF O O O O O)<|vE hK7 fun a hF=>?_
  rcases tf (bI .eql bn nm) with hq | hq
  ·refine au hF O hq ?_
   apply wp_skip
   refine hK6 _ _ ?_
   refine wp_region_lit ?_
   refine vR hF<|vX O<|vV O (bH O O O (Qu _ ag))<|vX O fun a hF=>?_
   refine aK ?_
   exact ⟨i+1,ag,ag,wH hno hp (tC hq),hF.keep [5,1,2,4] rfl,hA7⟩
  ·refine aG hF O hq ?_
   refine wS hF fun K8 hK8=>vV O (yf 35 rfl QL O pz O)<|vV O (aX (u:= .slice (some ⟨b,o,none⟩) ca.vals.length ca.vC) rfl hA7.q O 1 O (by rw [← hsA]; exact fB h32 0) pU) fun a hF=>?_
   refine vR hF<|vX O<|vV O (bV O QQ pq O O i rfl hlt rfl)<|vV O (xe O QP O pF ae rfl rfl)<|vV O (jv (new:=va.cells) rfl (Hq.sub hA7.q (List.Subset.trans hG (bJ (bJ (dD))))) O hc (i*5+1) ag (Nat.add_assoc ..) (E8 (k:=1) hat rfl) Ku) fun a hF=>?_
   refine ax O (fun K hK=>bu (new:=[.int .i64 va.v.k,.int .i64 va.v.n,ak va.v.t,.slice va.sA va.v.s.length va.sC]) hF O O hA7 O O 0 O O (by simp [Value.oneCell']) pF (fun w9 hA10=>hK _ _ ?_))
   replace hA10:Hp w0 ([row b4 25 [.int .i64 va.v.k,.int .i64 va.v.n,ak va.v.t,.slice va.sA va.v.s.length va.sC]]::[row b1 52 ca.cells]::R) w9:=hA10
   refine aK<|hK8 _ _ ?_
   apply wp_ret
   simp only [Exit.then,Exit.inBlock]
   refine lm hF Tryz.results115 hA10.q O 0 O (by exact Ku) ?_
   have hA11:Hp w0 (R) w9:=hpS 2 [] [0,1] hA10 rfl
   exact ⟨va,rfl,(DC hno hp (tq hq)).symm,hva,hA11⟩
 ·refine au hF O (dm ag) ?_
  obtain rfl:i=ca.vals.length:=by omega
  apply wp_exit
  refine hK2 _ _ ?_
  refine wS hF fun K9 hK9=>vV O (fU O uC) fun a hF=>?_
  refine ax O (fun K hK=>bu (new:=[.int .i64 0,.int .i64 0,ak [],.slice none 0 0]) hF O O hA7 O O 0 O O (by simp [Value.oneCell']) pF (fun w12 hA13=>hK _ _ ?_))
  replace hA13:Hp w0 ([row b4 25 [.int .i64 0,.int .i64 0,ak [],.slice none 0 0]]::[row b1 52 ca.cells]::R) w12:=hA13
  refine aK<|hK9 _ _ ?_
  apply wp_ret
  refine lm hF Tryz.results115 hA13.q O 0 O (by exact Ku) ?_
  have hA14:Hp w0 (R) w12:=hpS 2 [] [0,1] hA13 rfl
  exact ⟨noVA,rfl,(Dz hno).symm,Dt,hA14⟩
end Go.Proofs.YtepbmdlgdaedpaaGreatDoor
