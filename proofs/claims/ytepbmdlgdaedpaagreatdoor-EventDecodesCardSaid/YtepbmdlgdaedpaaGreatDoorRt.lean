/- The reference's takings. -/
import Derived.Test.YtepbmdlgdaedpaaGreatDoorBook3
import Derived.Test.YtepbmdlgdaedpaaGreatDoorKb
import Derived.Test.YtepbmdlgdaedpaaGreatDoorRf
/- The reference's takings. -/
namespace Go.Proofs.YtepbmdlgdaedpaaGreatDoor
open Go.RowKit Go.Dk
theorem lu {α:Type} {r:Res α} {x:α} {k:Nat} (h:r= .ok x k) (d:α):r.val d 0=x∧r.pl 0 0=k∧r.why 0=0:=by
 subst h
 refine ⟨rfl,?_,rfl⟩
 show 0+k=k
 omega
theorem ig {α:Type} {r:Res α} {e:Nat} (h:r= .no e) (d:α):r.val d 0=d∧r.pl 0 0=0∧r.why 0=e:=by
 subst h; exact ⟨rfl,rfl,rfl⟩
theorem FO (r:List UInt8) (h:0<r.length):num (r.take 1)=(bAt r 0).toNat:=by
 have h1:=jD h
 rw [h1]; simp [num]
theorem mJ:aQ Tryz.prog 110:=⟨_,Tryz.func110,af,af⟩
theorem xk:aQ Tryz.prog 112:=⟨_,Tryz.func112,af,af⟩
theorem wZ:aQ Tryz.prog 158:=⟨_,Tryz.func158,af,af⟩
theorem qC:aQ Tryz.prog 159:=⟨_,Tryz.func159,af,af⟩
theorem wX:aQ Tryz.prog 193:=⟨_,Tryz.func193,af,af⟩
set_option maxRecDepth 100000 in
set_option maxHeartbeats 4000000 in
theorem pF (w:World) (m k:Int) (hk:0≤k):Calls Tryz.prog 159 #[.int .i64 m,.int .i64 k] w fun e w'=>e= .returned (.int .i64 (bnd m k))∧w=w':=by
 refine aO Tryz.func159 O Tryz.ntmps159 ai (fun a hF=>?_)
 refine wS hF fun K1 hK1=>vX O<|vE hK1<|wQ fun K2 hK2=>wT fun K3 hK3=>vX O<|vV O (aG O O O O O)<|vE hK3 fun a hF=>?_
 by_cases h1:m<0
 ·refine aF hF O (dM ag) ?_
  refine wS hF fun K4 hK4=>vX O<|vE hK4 fun a hF=>?_
  apply wp_ret
  simp only [Exit.then]
  refine aN hF Tryz.results159 O ?_
  exact ⟨by rw [show bnd m k=0 by unfold bnd; omega],rfl⟩
 ·refine ay hF O (dG ag) ?_
  apply wp_skip
  refine hK2 _ _ ?_
  apply wp_seq_k; intro K5 hK5
  refine wS hF fun K6 hK6=>vX O<|vX O<|vV O (aG O O O O O)<|vE hK6 fun a hF=>?_
  by_cases h2:m<k
  ·refine aF hF O (dM ag) ?_
   refine wS hF fun K7 hK7=>vX O<|vX O<|vE hK7 fun a hF=>?_
   apply wp_ret
   simp only [Exit.then]
   refine aN hF Tryz.results159 O ?_
   exact ⟨by rw [show bnd m k=m by unfold bnd; omega],rfl⟩
  ·refine ay hF O (dG ag) ?_
   apply wp_skip
   refine hK5 _ _ ?_
   refine wS hF fun K8 hK8=>vX O<|vX O<|vE hK8 fun a hF=>?_
   apply wp_ret
   refine aN hF Tryz.results159 O ?_
   exact ⟨by rw [show bnd m k=k by unfold bnd; omega],rfl⟩
set_option maxRecDepth 100000 in
set_option maxHeartbeats 4000000 in
theorem iY (w0 w:World) (R:List Seg) (A:Option Addr) (r:List UInt8) (c kk:Nat) (z:Int) (hz:z=kk) (hK:kk≤8) (hR:Rd w0 R A r) (hA:Hp w0 R w) (hl:r.length<140737488354000):Calls Tryz.prog 110 #[.slice A r.length c,.int .i64 z] w fun e w'=>e= .returned (.tuple #[.int .u64 (((cO kk r).val 0 0:Nat):Int),.int .i64 (((cO kk r).pl 0 0:Nat):Int),.int .i64 (((cO kk r).why 0:Nat):Int)])∧w=w':=by
 subst hz
 refine aO Tryz.func110 O Tryz.ntmps110 ai (fun a hF=>?_)
 refine wS hF fun K1 hK1=>vX O<|vX O<|vX O<|vE hK1 fun a hF=>?_
 clear hK1 K1
 apply wp_seq_k; intro K2 hK2
 refine wS hF fun K3 hK3=>vX O<|vV O (aZ O KY O O)<|vX O<|vV O (aG O O O O O)<|vE hK3 fun a hF=>?_
 clear hK3 K3
 by_cases hk:r.length<kk
 ·refine aF hF O (dM ag) ?_
  obtain ⟨h1,h2,h3⟩:=ig (show cO kk r= .no 8 from if_pos hk) 0
  rw [h1,h2,h3]
  refine wS hF fun K4 hK4=>vX O<|vX O<|vX O<|vE hK4 fun a hF=>?_
  clear hK4 K4
  apply wp_ret
  simp only [Exit.then]
  refine dn hF Tryz.results110 O O O ?_
  exact ⟨rfl,rfl⟩
 ·refine ay hF O (dG ag) ?_
  obtain ⟨h1,h2,h3⟩:=lu (show cO kk r= .ok (num (r.take kk)) kk from if_neg hk) 0
  apply wp_skip
  refine hK2 _ _ ?_; clear  hK2 K2
  refine wS hF fun K5 hK5=>vX O<|vE hK5 fun a hF=>?_
  clear hK5 K5
  apply wp_seq_k; intro K6 hK6
  refine wS hF fun K7 hK7=>vX O<|vE hK7 fun a hF=>?_
  clear hK7 K7
  apply wp_block
  refine bM (G:=Nat) (fun i a x=>i≤kk∧x=w∧Fr 28 [(7,.int .u64 ((num (r.take i):Nat):Int)),(8,.int .i64 (i:Int)),(0,.slice A r.length c),(1,.int .i64 ((kk:Nat):Int))] a∧Hp w0 (R) x) (fun i=>kk-i) 0 (⟨KW _,rfl,hF.keep [7,8,0,1] rfl,hA⟩) ?_
  clear hF
  rintro i a w2 ⟨hi,hx,hF,hA1⟩
  subst hx
  apply wp_seq_k; intro K8 hK8
  refine wS hF fun K9 hK9=>vX O<|vX O<|vV O (aG O O O O O)<|vE hK9 fun a hF=>?_
  clear hK9 K9
  by_cases hlt:i<kk
  ·refine aF hF O (dM ag) ?_
   have hir:i<r.length:=by omega
   have hnm:=jD hir
   have hns:=gz (l:=r) (i:=i) (K:=kk) hlt hK
   have hb8:=UInt8.toNat_lt (bAt r i)
   obtain ⟨b,o,rfl,hc⟩:=hR.ne (i:=i) (by rw [aP]; exact hir)
   apply wp_skip
   refine hK8 _ _ ?_; clear  hK8 K8
   apply wp_seq_k; intro K10 hK10
   apply wp_block
   refine wp_region_lit ?_
   refine vR hF<|vX O<|vV O (nJ (r:=((num (r.take i)*256:Nat):Int)) O O O (by rw [IntKind.wrap_u64]; omega)) fun a hF=>?_
   refine vR hF<|vX O<|vX O<|vV O (bT O KY tq O O i rfl hir (ad2 _ _ _))<|vV O (dQ (u:= .int .u8 ((bAt r i).toNat:Int)) O hA1.q O hc i (by rw [aP]; exact hir) rfl (kN hir) uf) fun a hF=>?_
   refine vR hF<|vV O (bI O Lt Lu O (show IntKind.u64.wrap (((bAt r i).toNat:Int))=((bAt r i).toNat:Int) by rw [IntKind.wrap_u64]; omega)) fun a hF=>?_
   refine vR hF<|vV O (bU (r:=((num (r.take (i+1)):Nat):Int)) O O O (by rw [IntKind.wrap_u64,hnm]; omega)) fun a hF=>?_
   refine vR hF<|vX O fun a hF=>aK<|hK10 _ _ ?_
   clear hK10 K10
   refine wp_region_lit ?_
   refine vR hF<|vX O<|vV O (bU O O O (KX _ ag))<|vX O fun a hF=>?_
   refine aK ?_
   exact ⟨i+1,ag,ag,rfl,hF.keep [7,8,0,1] rfl,hA1⟩
  ·refine ay hF O (dG ag) ?_
   obtain rfl:i=kk:=by omega
   apply wp_exit
   refine hK6 _ _ ?_; clear hK8 K8 hK6 K6
   refine wS hF fun K11 hK11=>vX O<|vX O<|vX O<|vX O<|vX O<|vE hK11 fun a hF=>?_
   clear hK11 K11
   apply wp_ret
   refine dn hF Tryz.results110 O O O ?_
   rw [h1,h2,h3]
   exact ⟨rfl,rfl⟩
theorem IL (n:Nat):az .eql (n:Int) 1=(n == 1):=by
 by_cases h:n=1
 ·subst h; rfl
 ·rw [bK ag,beq_eq_false_iff_ne.2 h]
set_option maxRecDepth 100000 in
set_option maxHeartbeats 4000000 in
theorem FP (w0 w:World) (R:List Seg) (A:Option Addr) (r:List UInt8) (c:Nat) (hR:Rd w0 R A r) (hA:Hp w0 R w):Calls Tryz.prog 111 #[.slice A r.length c] w fun e w'=>e= .returned (.tuple #[.bool ((dZ r).val false 0),.int .i64 (((dZ r).pl 0 0:Nat):Int),.int .i64 (((dZ r).why 0:Nat):Int)])∧w=w':=by
 refine aO Tryz.func111 O Tryz.ntmps111 ai (fun a hF=>?_)
 by_cases hr0:0<r.length
 ·have hr1:=FO r hr0
  have hb8:=UInt8.toNat_lt (bAt r 0)
  obtain ⟨b,o,rfl,hc⟩:=hR.ne (i:=0) (by rw [aP]; exact hr0)
  by_cases hg:1<(bAt r 0).toNat
  ·obtain ⟨h1,h2,h3⟩:=ig (show dZ r= .no 8 from if_pos (.inr ag)) false
   rw [h1,h2,h3]
   refine wS hF fun K1 hK1=>vX O<|vX O<|vX O<|vE hK1<|wQ fun K2 hK2=>wT fun K3 hK3=>vX O<|vV O (aZ O KY O O)<|vV O (aG O O O O (bK ag))<|vX O<|vG O (aX O O)<|vG O (bT O KY tq O O 0 O hr0 (ad2 _ _ _))<|vG O (dQ (u:= .int .u8 ((bAt r 0).toNat:Int)) O hA.q O hc 0 (by rw [aP]; exact hr0) rfl (kN hr0) uf) fun a hF=>?_
   refine vR hF<|vG O (aG O O O O (fA ag))<|vV O (dB O O O)<|vE hK3<|vT1 O<|wT fun K4 hK4=>vX O<|vX O<|vX O<|vE hK4 fun a hF=>?_
   apply wp_ret
   simp only [Exit.then]
   refine dn hF Tryz.results111 O O O ?_
   exact ⟨rfl,rfl⟩
  ·obtain ⟨h1,h2,h3⟩:=lu (show dZ r= .ok (num (r.take 1) == 1) 1 from if_neg ag) false
   rw [h1,h2,h3]
   refine wS hF fun K5 hK5=>vX O<|vX O<|vX O<|vE hK5<|wQ fun K6 hK6=>wT fun K7 hK7=>vX O<|vV O (aZ O KY O O)<|vV O (aG O O O O (bK ag))<|vX O<|vG O (aX O O)<|vG O (bT O KY tq O O 0 O hr0 (ad2 _ _ _))<|vG O (dQ (u:= .int .u8 ((bAt r 0).toNat:Int)) O hA.q O hc 0 (by rw [aP]; exact hr0) rfl (kN hr0) uf) fun a hF=>?_
   refine vR hF<|vG O (aG O O O O (fC ag))<|vV O (dB O O O)<|vE hK7<|vF1 O<|wKp hK6<|wT fun K8 hK8=>vX O<|vV O (bT O KY tq O O 0 O hr0 (ad2 _ _ _))<|vV O (dQ (u:= .int .u8 ((bAt r 0).toNat:Int)) O hA.q O hc 0 (by rw [aP]; exact hr0) rfl (kN hr0) uf) fun a hF=>?_
   refine vR hF<|vV O (aG (c:=(num (r.take 1) == 1)) O O O O (by rw [hr1]; exact IL _)) fun a hF=>?_
   refine vR hF<|vX O<|vX O<|vX O<|vE hK8 fun a hF=>?_
   apply wp_ret
   refine dn hF Tryz.results111 O O O ?_
   exact ⟨rfl,rfl⟩
 ·have hl0:r.length=0:=by omega
  obtain ⟨h1,h2,h3⟩:=ig (show dZ r= .no 8 from if_pos (.inl ag)) false
  rw [h1,h2,h3]
  refine wS hF fun K9 hK9=>vX O<|vX O<|vX O<|vE hK9<|wQ fun K10 hK10=>wT fun K11 hK11=>vX O<|vV O (aZ O KY O O)<|vV O (aG O O O O (eH ag))<|vX O<|vS O<|vS O<|vS O<|vS O<|vV O (dB O O O)<|vE hK11<|vT1 O<|wT fun K12 hK12=>vX O<|vX O<|vX O<|vE hK12 fun a hF=>?_
  apply wp_ret
  simp only [Exit.then]
  refine dn hF Tryz.results111 O O O ?_
  exact ⟨rfl,rfl⟩
set_option maxRecDepth 100000 in
set_option maxHeartbeats 4000000 in
theorem IK (w0 w:World) (R:List Seg) (A:Option Addr) (r:List UInt8) (c:Nat) (n:Int) (hc:r.length≤c) (hR:Rd w0 R A r) (hA:Hp w0 R w) (hl:r.length<140737488354000) (hn64 : -9223372036854775808≤n∧n≤9223372036854775807):Calls Tryz.prog 193 #[.slice A r.length c,.int .i64 n] w fun e w'=>∃ v' Z,e= .returned (.tuple #[v',.int .i64 (((bY r n).pl 0 0:Nat):Int),.int .i64 (((bY r n).why 0:Nat):Int)])∧Buf 5 1 Z v' ((bY r n).val [] 0).length (dc ((bY r n).val [] 0))∧Hp w0 (Z::R) w':=by
 refine aO Tryz.func193 O Tryz.ntmps193 ai (fun a hF=>?_)
 by_cases hn0:n<0
 ·obtain ⟨h1,h2,h3⟩:=ig (show bY r n= .no 8 from if_pos (.inl hn0)) []
  rw [h1,h2,h3]
  refine wS hF fun K1 hK1=>vX O<|vX O<|vX O<|vE hK1<|wQ fun K2 hK2=>wT fun K3 hK3=>vX O<|vV O (aG O O O O (dM ag))<|vX O<|vS O<|vS O<|vS O<|vS O<|vV O (dB O O O)<|vE hK3<|vT1 O<|wT fun K4 hK4=>vX O<|vX O<|vX O<|vE hK4 fun a hF=>?_
  apply wp_ret
  simp only [Exit.then]
  refine dn hF Tryz.results193 O O O ?_
  exact ⟨_,[],rfl,Buf.nil _ _,Hp.nil hA⟩
 ·by_cases hn1:(r.length:Int)<n
  ·obtain ⟨h1,h2,h3⟩:=ig (show bY r n= .no 8 from if_pos (.inr hn1)) []
   rw [h1,h2,h3]
   refine wS hF fun K5 hK5=>vX O<|vX O<|vX O<|vE hK5<|wQ fun K6 hK6=>wT fun K7 hK7=>vX O<|vV O (aG O O O O (dG ag))<|vX O<|vG O (aX O O)<|vG O (aX O O)<|vG O (aZ O KY O O)<|vG O (aG O O O O (fA ag))<|vV O (dB O O O)<|vE hK7<|vT1 O<|wT fun K8 hK8=>vX O<|vX O<|vX O<|vE hK8 fun a hF=>?_
   apply wp_ret
   simp only [Exit.then]
   refine dn hF Tryz.results193 O O O ?_
   exact ⟨_,[],rfl,Buf.nil _ _,Hp.nil hA⟩
  ·obtain ⟨h1,h2,h3⟩:=lu (show bY r n= .ok (r.take n.toNat) n.toNat from if_neg ag) []
   rw [h1,h2,h3]
   obtain ⟨m,rfl⟩:=Int.eq_ofNat_of_zero_le (show 0≤n by omega)
   rw [Int.toNat_natCast]
   have hml:(r.take m).length=m:=by rw [List.length_take]; omega
   have hRm:=hR.take m
   refine wS hF fun K9 hK9=>vX O<|vX O<|vX O<|vE hK9<|wQ fun K10 hK10=>wT fun K11 hK11=>vX O<|vV O (aG O O O O (dG ag))<|vX O<|vG O (aX O O)<|vG O (aX O O)<|vG O (aZ O KY O O)<|vG O (aG O O O O (fC ag))<|vV O (dB O O O)<|vE hK11<|vF1 O fun a hF=>?_
   have hA1:Hp w0 (([]:Seg)::R) w:=Hp.nil hA
   have hO:Buf 5 1 [] (.slice none 0 0) 0 []:=Buf.nil _ _
   apply wp_skip
   refine hK10 _ _ ?_
   refine wS hF fun K12 hK12=>vX O<|vX O<|vV O (eX O KY tq O (.none 0) (.some rfl rfl) (KW _) ag kC) fun a hF=>?_
   refine aH O (fun K hK=>bG hF O ae rfl hA1 0 O hO KY bZ rfl rfl ((by have h:=Rc.src (c:=c) (hRm.mono (bF (dH))) hA1.q KY; rw [hml] at h; exact h)) ag ae (fun v2 X2 w2 a hO2 hF hA3=>hK _ _ ?_))
   replace hA3:Hp w0 (X2::R) w2:=hA3
   refine vR hF<|vX O<|vX O<|vX O<|vX O<|vE hK12 fun a hF=>?_
   apply wp_ret
   refine dn hF Tryz.results193 O O O ?_
   rw [Nat.zero_add,List.nil_append] at hO2
   exact ⟨_,_,rfl,by rw [hml]; exact hO2,hA3⟩
theorem pz (w0 w:World) (R:List Seg) (A:Option Addr) (r:List UInt8) (c kk n:Nat) (z:Int) (hn:n=r.length) (hz:z=kk) (hK:kk≤8) (hR:Rd w0 R A r) (hA:Hp w0 R w) (hl:r.length<140737488354000):Calls Tryz.prog 110 #[.slice A n c,.int .i64 z] w fun e w'=>e= .returned (.tuple #[.int .u64 (((cO kk r).val 0 0:Nat):Int),.int .i64 (((cO kk r).pl 0 0:Nat):Int),.int .i64 (((cO kk r).why 0:Nat):Int)])∧w=w':=by
 subst hn; exact iY w0 w R A r c kk z hz hK hR hA hl
theorem yM (w0 w:World) (R:List Seg) (A:Option Addr) (r:List UInt8) (c k:Nat) (n:Int) (hk:k=r.length) (hc:r.length≤c) (hR:Rd w0 R A r) (hA:Hp w0 R w) (hl:r.length<140737488354000) (hn64 : -9223372036854775808≤n∧n≤9223372036854775807):Calls Tryz.prog 193 #[.slice A k c,.int .i64 n] w fun e w'=>∃ v' Z,e= .returned (.tuple #[v',.int .i64 (((bY r n).pl 0 0:Nat):Int),.int .i64 (((bY r n).why 0:Nat):Int)])∧Buf 5 1 Z v' ((bY r n).val [] 0).length (dc ((bY r n).val [] 0))∧Hp w0 (Z::R) w':=by
 subst hk; exact IK w0 w R A r c n hc hR hA hl hn64
theorem FM {r:List UInt8} {k j:Nat} (h:k+j<r.length):(r.drop k).take (j+1)=(r.drop k).take j++[bAt r (k+j)]:=by
 rw [List.take_add_one,List.getElem?_drop]
 simp [bAt,h]
theorem IJ {q:List UInt8} {j:Nat} {b:UInt8} (hq:q.length=j) (hj:j<32):(dc (q++List.replicate (32-j) 0)).set j (.int .u8 (b.toNat:Int))=dc (q++[b]++List.replicate (32-(j+1)) 0):=by
 have h:=set_mid (B:=[]) (W:=dc q) (Z:=dc (List.replicate (32-j) 0)) (j:=j) (u:= .int .u8 (b.toNat:Int)) (by rw [aP,hq]) (by rw [aP,List.length_replicate]; omega)
 simp only [List.nil_append,List.length_nil,Nat.zero_add] at h
 rw [bP,h,bP,bP,List.append_assoc,zD,List.drop_replicate,show 32-j-1=32-(j+1) by omega]
 rfl
theorem Ah {D:List UInt8} (h:D.length=32):(List.range 32).map (bAt D)=D:=by
 apply List.ext_getElem?
 intro i
 by_cases hi:i<32
 ·rw [List.getElem?_map,List.getElem?_range hi,Option.map_some,List.getElem?_eq_getElem ag]
  simp [bAt,h,hi]
 ·rw [List.getElem?_eq_none (by simpa using hi),List.getElem?_eq_none ag]
theorem Ai (f:Nat→UInt8) (w:World):(Instr.buildSlice 59 1 #[(0,.agg (dc ((List.range 32).map f)).toArray)]).run Tryz.prog w= .ok (.slice (some ⟨w.heap.size,0,none⟩) 1 1) (w.alloc (.cells (dc ((List.range 32).map f)).toArray 29)):=af
theorem CS {D:List UInt8} (h:D.length=32) (w:World):(Instr.buildSlice 59 1 #[(0,.agg (dc D).toArray)]).run Tryz.prog w= .ok (.slice (some ⟨w.heap.size,0,none⟩) 1 1) (w.alloc (.cells (dc D).toArray 29)):=by
 have h1:=Ai (bAt D) w
 rw [Ah h] at h1
 exact h1
theorem CP:iJ Tryz.prog 29 32 32:=kL (z:= .agg (dc (List.replicate 32 0)).toArray) af af
set_option maxRecDepth 100000 in
set_option maxHeartbeats 4000000 in
theorem xI (w0 w:World) (R:List Seg) (A:Option Addr) (r:List UInt8) (c:Nat) (n:Int) (hR:Rd w0 R A r) (hA:Hp w0 R w) (hl:r.length<140737488354000) (hn64 : -9223372036854775808≤n∧n≤9223372036854775807):Calls Tryz.prog 134 #[.slice A r.length c,.int .i64 n] w fun e w'=>∃ v' Z,e= .returned (.tuple #[v',.int .i64 (((fQ r n).pl 0 0:Nat):Int),.int .i64 (((fQ r n).why 0:Nat):Int)])∧Buf 29 32 Z v' ((fQ r n).val [] 0).length (oz ((fQ r n).val [] 0))∧Hp w0 (Z::R) w':=by
 refine aO Tryz.func134 O Tryz.ntmps134 ai (fun a hF=>?_)
 by_cases hn0:n<0
 ·obtain ⟨h1,h2,h3⟩:=ig (show fQ r n= .no 8 from if_pos (.inl hn0)) []
  rw [h1,h2,h3]
  refine wS hF fun K1 hK1=>vX O<|vX O<|vX O<|vE hK1<|wQ fun K2 hK2=>wT fun K3 hK3=>vX O<|vV O (aG O O O O (dM ag))<|vX O<|vS O<|vS O<|vS O<|vS O<|vS O<|vV O (dB O O O)<|vE hK3<|vT1 O<|wT fun K4 hK4=>vX O<|vX O<|vX O<|vE hK4 fun a hF=>?_
  apply wp_ret
  simp only [Exit.then]
  refine dn hF Tryz.results134 O O O ?_
  exact ⟨_,[],rfl,Buf.nil _ _,Hp.nil hA⟩
 ·by_cases hn1:((r.length/32:Nat):Int)<n
  ·obtain ⟨h1,h2,h3⟩:=ig (show fQ r n= .no 8 from if_pos (.inr hn1)) []
   rw [h1,h2,h3]
   refine wS hF fun K5 hK5=>vX O<|vX O<|vX O<|vE hK5<|wQ fun K6 hK6=>wT fun K7 hK7=>vX O<|vV O (aG O O O O (dG ag))<|vX O<|vG O (aX O O)<|vG O (aX O O)<|vG O (aZ O KY O O)<|vG O (Ic O O O ae (C9 ag (KX _ ag) (show (r.length:Int)/32=((r.length/32:Nat):Int) by omega))) fun a hF=>?_
   refine vR hF<|vG O (aG O O O O (fA ag))<|vV O (dB O O O)<|vE hK7<|vT1 O<|wT fun K8 hK8=>vX O<|vX O<|vX O<|vE hK8 fun a hF=>?_
   apply wp_ret
   simp only [Exit.then]
   refine dn hF Tryz.results134 O O O ?_
   exact ⟨_,[],rfl,Buf.nil _ _,Hp.nil hA⟩
  ·obtain ⟨h1,h2,h3⟩:=lu (show fQ r n= .ok (chunks n.toNat r) (32*n.toNat) from if_neg ag) []
   obtain ⟨m,rfl⟩:=Int.eq_ofNat_of_zero_le (show 0≤n by omega)
   rw [Int.toNat_natCast] at h1 h2
   have hm32:32*m≤r.length:=by omega
   refine wS hF fun K9 hK9=>vX O<|vX O<|vX O<|vE hK9<|wQ fun K10 hK10=>wT fun K11 hK11=>vX O<|vV O (aG O O O O (dG ag))<|vX O<|vG O (aX O O)<|vG O (aX O O)<|vG O (aZ O KY O O)<|vG O (Ic O O O ae (C9 ag (KX _ ag) (show (r.length:Int)/32=((r.length/32:Nat):Int) by omega))) fun a hF=>?_
   refine vR hF<|vG O (aG O O O O (fC ag))<|vV O (dB O O O)<|vE hK11<|vF1 O<|wKp hK10<|wT fun K12 hK12=>vX O<|vE hK12<|wQ fun K13 hK13=>wT fun K14 hK14=>vX O<|vE hK14<|wBk fun a hF=>?_
   have hA1:Hp w0 (([]:Seg)::R) w:=Hp.nil hA
   refine bM (G:=Nat) (fun i a x=>∃ (lv:Value) (XL:Seg),i≤m∧Buf 29 32 XL lv i (oz (chunks i r))∧Fr 45 [(7,lv),(8,.int .i64 (i:Int)),(0,.slice A r.length c),(1,.int .i64 (m:Int))] a∧Hp w0 (XL::R) x) (fun i=>m-i) 0 (⟨_,[],KW _,Buf.nil _ _,hF.keep [7,8,0,1] rfl,hA1⟩) ?_
   clear hF
   rintro i a w3 ⟨lv,XL,hi,hB,hF,hA2⟩
   apply wp_seq_k; intro K15 hK15
   refine wS hF fun K16 hK16=>vX O<|vX O<|vV O (aG O O O O O)<|vE hK16 fun a hF=>?_
   by_cases hlt:i<m
   ·refine aF hF O (dM ag) ?_
    apply wp_skip
    refine hK15 _ _ ?_
    apply wp_seq_k; intro K17 hK17
    apply wp_block
    refine wp_seq_k fun K18 hK18=>wp_region_lit ?_
    refine aH O (fun K hK=>dw hF O ae rfl hA2 (E5) (fun b4 w5 a hb4 hF hA6=>hK _ _ ?_))
    refine aK<|hK18 _ _ ?_
    apply wp_seq_k; intro K19 hK19
    refine wS hF fun K20 hK20=>vX O<|vE hK20<|wBk fun a hF=>?_
    have hA7:Hp w0 ([row b4 29 (dc ((r.drop (32*i)).take 0++List.replicate (32-0) 0))]::XL::R) w5:=by
     have e:dc ((r.drop (32*i)).take 0++List.replicate (32-0) 0)=dc (List.replicate 32 0):=by rw [List.take_zero,List.nil_append]
     rw [e]; exact hA6
    have hA8:Hp w0 (XL::[row b4 29 (dc ((r.drop (32*i)).take 0++List.replicate (32-0) 0))]::R) w5:=hpO 2 [1,0] hA7 rfl
    refine bM (G:=Nat) (fun j a x=>j≤32∧Fr 45 [(10,.int .i64 (j:Int)),(0,.slice A r.length c),(1,.int .i64 (m:Int)),(7,lv),(8,.int .i64 (i:Int)),(9,.pointer (some ⟨b4,0,none⟩))] a∧Hp w0 (XL::[row b4 29 (dc ((r.drop (32*i)).take j++List.replicate (32-j) 0))]::R) x) (fun j=>32-j) 0 (⟨KW _,hF.keep [10,0,1,7,8,9] rfl,hA8⟩) ?_
    clear hF
    rintro j a w10 ⟨hj,hF,hA9⟩
    apply wp_seq_k; intro K21 hK21
    refine wS hF fun K22 hK22=>vX O<|vV O (aG O O O O O)<|vE hK22 fun a hF=>?_
    by_cases hlj2:j<32
    ·refine aF hF O (dM ag) ?_
     have hir:32*i+j<r.length:=by omega
     have htj:=FM (r:=r) (k:=32*i) (j:=j) hir
     have hlj:((r.drop (32*i)).take j).length=j:=by rw [List.length_take,List.length_drop]; omega
     obtain ⟨b,o,rfl,hc⟩:=hR.ne (i:=32*i+j) (by rw [aP]; exact hir)
     apply wp_skip
     refine hK21 _ _ ?_
     apply wp_seq_k; intro K23 hK23
     apply wp_block
     refine wp_region_lit ?_
     refine vR hF<|vX O<|vX O<|vX O<|vV O (nJ O O O (KX _ ag))<|vX O<|vV O (bU O O O (KX _ ag))<|vV O (bT O KY tq O O (32*i+j) ag hir (ad2 _ _ _))<|vV O (dQ (u:= .int .u8 ((bAt r (32*i+j)).toNat:Int)) O (Hq.sub hA9.q (bF (bF (dH)))) O hc (32*i+j) (by rw [aP]; exact hir) rfl (kN hir) uf) fun a hF=>?_
     refine vR hF<|vV O (yF O LC tq O O j rfl hlj2 (ad1 _ _) (rfl:(none:Option Nat)=none)) fun a hF=>?_
     refine aH O (fun K hK=>bz hF O O hA9 O O 1 O (by rw [aP,List.length_append,List.length_replicate,hlj]; omega) rfl tq (fun w11 hA12=>hK _ _ ?_))
     replace hA12:Hp w0 (XL::[row b4 29 ((dc ((r.drop (32*i)).take j++List.replicate (32-j) 0)).set j (.int .u8 ((bAt r (32*i+j)).toNat:Int)))]::R) w11:=hA12
     have hA13:Hp w0 (XL::[row b4 29 (dc ((r.drop (32*i)).take (j+1)++List.replicate (32-(j+1)) 0))]::R) w11:=by
      rw [htj,← IJ hlj hlj2]; exact hA12
     refine aK<|hK23 _ _ ?_
     refine wp_region_lit ?_
     refine vR hF<|vX O<|vV O (bU O O O (KX _ ag))<|vX O fun a hF=>?_
     refine aK ?_
     exact ⟨j+1,ag,ag,hF.keep [10,0,1,7,8,9] rfl,hA13⟩
    ·refine ay hF O (dG ag) ?_
     obtain rfl:j=32:=by omega
     have hq32:((r.drop (32*i)).take 32).length=32:=by rw [List.length_take,List.length_drop]; omega
     have hcs:chunks (i+1) r=chunks i r++[(r.drop (32*i)).take 32]:=by
      unfold chunks
      rw [List.range_succ,List.map_append]
      rfl
     have hA14:Hp w0 (XL::[row b4 29 (dc ((r.drop (32*i)).take 32))]::R) w10:=by
      have e:dc (((r.drop (32*i)).take 32)++List.replicate (32-32) 0)=dc ((r.drop (32*i)).take 32):=by rw [Nat.sub_self,List.replicate_zero,List.append_nil]
      rw [← e]; exact hA9
     apply wp_exit
     refine hK19 _ _ ?_
     refine wp_region_lit ?_
     refine vR hF<|vX O<|vV O (dm (new:=dc ((r.drop (32*i)).take 32)) O hA14.q O 1 O FC (by rw [aP,hq32]; exact KZ _) (by rw [List.drop_zero]; exact Lj (by rw [aP,hq32]; exact KZ _))) fun a hF=>?_
     refine aH O (fun K hK=>rO (qs := #[(0,.agg (dc ((r.drop (32*i)).take 32)).toArray)]) (cells:=(dc ((r.drop (32*i)).take 32)).toArray) hF O ae rfl hA14 O (CS hq32) (fun b15 w16 a hb15 hF hA17=>hK _ _ ?_))
     refine aH O (fun K hK=>bG hF O ae rfl hA17 1 O hB LD CP rfl rfl (Rc.srcC (W:=dc ((r.drop (32*i)).take 32)) (m:=1) (size:=32) (R:=[row b15 29 (dc ((r.drop (32*i)).take 32))]::XL::[row b4 29 (dc ((r.drop (32*i)).take 32))]::R) (Rc.ofRow (i:=0) (off:=0) rfl (by rw [List.drop_zero]; exact List.take_length)) hA17.q LD ae (by rw [aP,hq32]) (kM _)) (by clear hB; omega) ae (fun v4 X4 w18 a hB4 hF hA19=>hK _ _ ?_))
     replace hA19:Hp w0 ([row b15 29 (dc ((r.drop (32*i)).take 32))]::X4::[row b4 29 (dc ((r.drop (32*i)).take 32))]::R) w18:=hA19
     refine vR hF<|vX O fun a hF=>aK<|hK17 _ _ ?_
     refine wp_region_lit ?_
     refine vR hF<|vX O<|vV O (bU O O O (KX _ ag))<|vX O fun a hF=>?_
     refine aK ?_
     have hB5:Buf 29 32 X4 v4 (i+1) (oz (chunks (i+1) r)):=by rw [hcs,oz,List.map_append,List.flatten_append]; simpa using hB4
     have hA20:Hp w0 (X4::R) w18:=hpS 3 [1] [0,2] hA19 rfl
     exact ⟨i+1,ag,v4,X4,ag,hB5,hF.keep [7,8,0,1] rfl,hA20⟩
   ·refine ay hF O (dG ag) ?_
    obtain rfl:i=m:=by omega
    apply wp_exit
    refine hK13 _ _ ?_
    refine wS hF fun K24 hK24=>vX O<|vX O<|vV O (nJ O O O (KX _ ag))<|vX O<|vX O<|vX O<|vE hK24 fun a hF=>?_
    apply wp_ret
    refine dn hF Tryz.results134 O O O ?_
    rw [h1,h2,h3]
    have hcl:=qV i r
    exact ⟨lv,XL,rfl,by rw [hcl]; exact hB,hA2⟩
theorem FN (r:List UInt8) {kk:Nat} (hK:kk≤4):num (r.take kk)<4294967296:=by
 have h1:=jP (r.take kk)
 have h2:(r.take kk).length≤4:=by rw [List.length_take]; omega
 exact Nat.lt_of_lt_of_le h1 (Nat.le_trans (Nat.pow_le_pow_right ae h2) ae)
set_option maxRecDepth 100000 in
set_option maxHeartbeats 4000000 in
theorem vk (w0 w:World) (R:List Seg) (A:Option Addr) (r:List UInt8) (c kk k:Nat) (z m:Int) (hk0:k=r.length) (hz:z=kk) (hK:kk≤4) (hm:0≤m∧m≤2147483647) (hc:r.length≤c) (hR:Rd w0 R A r) (hA:Hp w0 R w) (hl:r.length<140737488354000):Calls Tryz.prog 158 #[.slice A k c,.int .i64 z,.int .i64 m] w fun e w'=>∃ v' Z k',e= .returned (.tuple #[v',.int .i64 ((k':Nat):Int),.int .i64 (((dN kk 6 r m).why 0:Nat):Int)])∧((dN kk 6 r m).why 0=0→k'=(dN kk 6 r m).pl 0 0)∧Buf 5 1 Z v' ((dN kk 6 r m).val [] 0).length (dc ((dN kk 6 r m).val [] 0))∧Hp w0 (Z::R) w':=by
 subst hk0
 subst hz
 refine aO Tryz.func158 O Tryz.ntmps158 ai (fun a hF=>?_)
 by_cases hk:r.length<kk
 ·obtain ⟨n1,n2,n3⟩:=ig (show cO kk r= .no 8 from if_pos hk) 0
  refine wS hF fun K1 hK1=>vX O<|vX O<|vX O<|vE hK1 fun a hF=>?_
  clear hK1 K1
  refine wS hF fun K2 hK2=>vX O<|vX O fun a hF=>?_
  refine aH O (fun K hK=>aI hF O ae mJ rfl rfl ?_)
  with_reducible refine (pz w0 _ _ A r c kk _ _ O O ag hR hA hl).mono ?_
  rintro e' w3 ⟨rfl,rfl⟩
  refine ⟨_,rfl,fun a hF=>hK _ _ ?_⟩
  clear hK K
  rw [n1,n2,n3] at hF
  refine vR hF<|vX O<|vV O (aJ (v:= .int .u64 ((0:Nat):Int)) O O O)<|vV O (aJ (v:= .int .i64 ((0:Nat):Int)) O O O)<|vV O (aJ (v:= .int .i64 ((8:Nat):Int)) O O O)<|vX O<|vX O<|vX O<|vE hK2 fun a hF=>?_
  clear hK2 K2
  apply wp_seq_k; intro K3 hK3
  refine wS hF fun K4 hK4=>vX O<|vV O (aG O O O O O)<|vE hK4 fun a hF=>?_
  clear hK4 K4
  refine aF hF O (fO ae) ?_
  refine wS hF fun K5 hK5=>vX O<|vX O<|vX O<|vX O<|vE hK5 fun a hF=>?_
  clear hK5 K5
  apply wp_ret
  simp only [Exit.then]
  refine dn hF Tryz.results158 O O O ?_
  obtain ⟨h1,h2,h3⟩:=ig (show dN kk 6 r m= .no 8 from if_pos hk) []
  rw [h1,h3]
  exact ⟨_,[],0,rfl,(fun h=>absurd h ae),Buf.nil _ _,Hp.nil hA⟩
 ·obtain ⟨n1,n2,n3⟩:=lu (show cO kk r= .ok (num (r.take kk)) kk from if_neg hk) 0
  have hnb:num (r.take kk)<4294967296:=FN r hK
  obtain ⟨u,hu⟩:∃ u,u=num (r.take kk):=⟨_,rfl⟩
  rw [← hu] at n1 hnb
  refine wS hF fun K6 hK6=>vX O<|vX O<|vX O<|vE hK6 fun a hF=>?_
  clear hK6 K6
  refine wS hF fun K7 hK7=>vX O<|vX O fun a hF=>?_
  refine aH O (fun K hK=>aI hF O ae mJ rfl rfl ?_)
  with_reducible refine (pz w0 _ _ A r c kk _ _ O O ag hR hA hl).mono ?_
  rintro e' w6 ⟨rfl,rfl⟩
  refine ⟨_,rfl,fun a hF=>hK _ _ ?_⟩
  clear hK K
  rw [n1,n2,n3] at hF
  refine vR hF<|vX O<|vV O (aJ (v:= .int .u64 ((u:Nat):Int)) O O O)<|vV O (aJ (v:= .int .i64 ((kk:Nat):Int)) O O O)<|vV O (aJ (v:= .int .i64 ((0:Nat):Int)) O O O)<|vX O<|vX O<|vX O<|vE hK7 fun a hF=>?_
  clear hK7 K7
  apply wp_seq_k; intro K8 hK8
  refine wS hF fun K9 hK9=>vX O<|vV O (aG O O O O O)<|vE hK9 fun a hF=>?_
  clear hK9 K9
  refine ay hF O (eP rfl) ?_
  apply wp_skip
  refine hK8 _ _ ?_; clear  hK8 K8
  apply wp_seq_k; intro K10 hK10
  refine wS hF fun K11 hK11=>vX O<|vX O<|vV O (bI O Lh Lu O (show IntKind.u64.wrap (m)=m by rw [IntKind.wrap_u64]; omega)) fun a hF=>?_
  refine vR hF<|vV O (aG O O O O O)<|vE hK11 fun a hF=>?_
  clear hK11 K11
  by_cases hm1:m<(u:Int)
  ·refine aF hF O (fA ag) ?_
   refine wS hF fun K12 hK12=>vX O<|vX O<|vX O<|vE hK12 fun a hF=>?_
   clear hK12 K12
   apply wp_ret
   simp only [Exit.then]
   refine dn hF Tryz.results158 O O O ?_
   obtain ⟨h1,h2,h3⟩:=ig (show dN kk 6 r m= .no 6 by unfold dN; rw [if_neg hk,← hu,if_pos hm1]) []
   rw [h1,h3]
   exact ⟨_,[],0,rfl,(fun h=>absurd h ae),Buf.nil _ _,Hp.nil hA⟩
  ·refine ay hF O (fC ag) ?_
   have hdl:(r.drop kk).length=r.length-kk:=List.length_drop
   by_cases hf:r.length-kk<u
   ·obtain ⟨r1,r2,r3⟩:=ig (show bY (r.drop kk) (u:Int)= .no 8 from if_pos (.inr ag)) []
    apply wp_skip
    refine hK10 _ _ ?_; clear  hK10 K10
    refine wS hF fun K13 hK13=>vX O<|vX O<|vV O (eX O KY tq O (.some rfl rfl) (.none _) ag ag rfl)<|vX O<|vV O (bI O Lu Lh O (KX _ ag)) fun a hF=>?_
    refine aH O (fun K hK=>aI hF O ae wX rfl rfl ?_)
    with_reducible refine (yM w0 _ R _ (r.drop kk) _ _ _ hdl.symm ag (hR.drop kk hc) hA ag ag).mono ?_
    rintro e' w7 ⟨v',Z,rfl,hZ,hA8⟩
    refine ⟨_,rfl,fun a hF=>hK _ _ ?_⟩
    clear hK K
    replace hA8:Hp w0 (Z::R) w7:=hA8
    rw [r2,r3] at hF
    rw [r1] at hZ
    refine vR hF<|vX O<|vV O (aJ (v:=v') rfl rfl rfl)<|vV O (aJ (v:= .int .i64 ((0:Nat):Int)) O O O)<|vV O (aJ (v:= .int .i64 ((8:Nat):Int)) O O O)<|vX O<|vX O<|vX O<|vE hK13 fun a hF=>?_
    clear hK13 K13
    refine wS hF fun K14 hK14=>vX O<|vX O<|vX O<|vV O (bI O Lu Lh O (KX _ ag))<|vV O (bU O O O (KX _ ag))<|vX O<|vX O<|vX O<|vX O<|vE hK14 fun a hF=>?_
    clear hK14 K14
    apply wp_ret
    refine dn hF Tryz.results158 O O O ?_
    obtain ⟨h1,h2,h3⟩:=ig (show dN kk 6 r m= .no 8 by unfold dN; rw [if_neg hk,← hu,if_neg hm1,if_pos hf]) []
    rw [h1,h3]
    exact ⟨v',Z,kk+u,rfl,(fun h=>absurd h ae),hZ,hA8⟩
   ·obtain ⟨r1,r2,r3⟩:=lu (show bY (r.drop kk) (u:Int)= .ok ((r.drop kk).take (u:Int).toNat) (u:Int).toNat from if_neg ag) []
    rw [Int.toNat_natCast] at r1 r2
    apply wp_skip
    refine hK10 _ _ ?_; clear  hK10 K10
    refine wS hF fun K15 hK15=>vX O<|vX O<|vV O (eX O KY tq O (.some rfl rfl) (.none _) ag ag rfl)<|vX O<|vV O (bI O Lu Lh O (KX _ ag)) fun a hF=>?_
    refine aH O (fun K hK=>aI hF O ae wX rfl rfl ?_)
    with_reducible refine (yM w0 _ R _ (r.drop kk) _ _ _ hdl.symm ag (hR.drop kk hc) hA ag ag).mono ?_
    rintro e' w9 ⟨v',Z,rfl,hZ,hA10⟩
    refine ⟨_,rfl,fun a hF=>hK _ _ ?_⟩
    clear hK K
    replace hA10:Hp w0 (Z::R) w9:=hA10
    rw [r2,r3] at hF
    rw [r1] at hZ
    refine vR hF<|vX O<|vV O (aJ (v:=v') rfl rfl rfl)<|vV O (aJ (v:= .int .i64 ((u:Nat):Int)) O O O)<|vV O (aJ (v:= .int .i64 ((0:Nat):Int)) O O O)<|vX O<|vX O<|vX O<|vE hK15 fun a hF=>?_
    clear hK15 K15
    refine wS hF fun K16 hK16=>vX O<|vX O<|vX O<|vV O (bI O Lu Lh O (KX _ ag))<|vV O (bU O O O (KX _ ag))<|vX O<|vX O<|vX O<|vX O<|vE hK16 fun a hF=>?_
    clear hK16 K16
    apply wp_ret
    refine dn hF Tryz.results158 O O O ?_
    obtain ⟨h1,h2,h3⟩:=lu (show dN kk 6 r m= .ok ((r.drop kk).take u) (kk+u) by unfold dN; rw [if_neg hk,← hu,if_neg hm1,if_neg hf]) []
    rw [h1,h2,h3]
    exact ⟨v',Z,kk+u,rfl,(fun _=>rfl),hZ,hA10⟩
set_option maxRecDepth 100000 in
set_option maxHeartbeats 4000000 in
theorem oK (w0 w:World) (R:List Seg) (A:Option Addr) (r:List UInt8) (c k:Nat) (most:Int) (hk0:k=r.length) (hc:r.length≤c) (hR:Rd w0 R A r) (hA:Hp w0 R w) (hl:r.length<140737488354000):Calls Tryz.prog 112 #[.slice A k c,.int .i64 most] w fun e w'=>∃ k',e= .returned (.tuple #[ak ((bW r most).val [] 0),.int .i64 ((k':Nat):Int),.int .i64 (((bW r most).why 0:Nat):Int)])∧((bW r most).why 0=0→k'=(bW r most).pl 0 0)∧Hp w0 R w':=by
 subst hk0
 have hbn:0≤bnd most 65535∧bnd most 65535≤2147483647:=⟨yz _ _ ae,Int.le_trans (iw _ _) ae⟩
 refine aO Tryz.func112 O Tryz.ntmps112 ai (fun a hF=>?_)
 refine wS hF fun K1 hK1=>vX O<|vX O<|vX O<|vE hK1<|wT fun K2 hK2=>vX O<|vX O fun a hF=>?_
 refine aH O (fun K hK=>aI hF O ae qC rfl rfl ?_)
 with_reducible refine (pF w _ _ ae).mono ?_
 rintro e' w3 ⟨rfl,rfl⟩
 refine ⟨_,rfl,fun a hF=>hK _ _ ?_⟩
 refine aH O (fun K hK=>aI hF O ae wZ rfl rfl ?_)
 with_reducible refine (vk w0 _ R A r c 2 _ 2 _ O O ae hbn hc hR hA hl).mono ?_
 rintro e' w4 ⟨v',Z,k',rfl,hk',hZ,hA5⟩
 refine ⟨_,rfl,fun a hF=>hK _ _ ?_⟩
 replace hA5:Hp w0 (Z::R) w4:=hA5
 refine vR hF<|vX O<|vV O (aJ (v:=v') rfl rfl rfl)<|vV O (aJ (v:= .int .i64 ((k':Nat):Int)) O O O)<|vV O (aJ (v:= .int .i64 (((dN 2 6 r (bnd most 65535)).why 0:Nat):Int)) O O O)<|vX O<|vX O<|vX O<|vE hK2<|wQ fun K3 hK3 a hF=>?_
 obtain ⟨_,AZ,cZ,rfl,_,hRZ⟩:=hZ.rd (w0:=w0) (R:=[Z]) (La ..)
 refine wp_region_lit ?_
 refine vR hF<|vX O<|vV O (iW (l:=(dN 2 6 r (bnd most 65535)).val [] 0) rfl KY Lt Le O O (hRZ.bts (Hq.sub hA5.q (IB ((La ..))))))<|vX O<|vX O<|vX O<|vX O<|vX O<|vE hK3 fun a hF=>?_
 apply wp_ret
 refine dn hF Tryz.results112 O O O ?_
 exact ⟨k',rfl,hk',hA5.tail⟩
set_option maxRecDepth 100000 in
set_option maxHeartbeats 4000000 in
theorem CQ (w0 w:World) (R:List Seg) (A:Option Addr) (r:List UInt8) (c k:Nat) (most:Int) (hk0:k=r.length) (hc:r.length≤c) (hR:Rd w0 R A r) (hA:Hp w0 R w) (hl:r.length<140737488354000):Calls Tryz.prog 131 #[.slice A k c,.int .i64 most] w fun e w'=>∃ v' Z k',e= .returned (.tuple #[v',.int .i64 ((k':Nat):Int),.int .i64 (((di r most).why 0:Nat):Int)])∧((di r most).why 0=0→k'=(di r most).pl 0 0)∧Buf 5 1 Z v' ((di r most).val [] 0).length (dc ((di r most).val [] 0))∧Hp w0 (Z::R) w':=by
 subst hk0
 have hbn:0≤bnd most 2147483647∧bnd most 2147483647≤2147483647:=⟨yz _ _ ae,Int.le_trans (iw _ _) ae⟩
 refine aO Tryz.func131 O Tryz.ntmps131 ai (fun a hF=>?_)
 refine wS hF fun K1 hK1=>vX O<|vX O<|vX O<|vE hK1<|wT fun K2 hK2=>vX O<|vX O fun a hF=>?_
 refine aH O (fun K hK=>aI hF O ae qC rfl rfl ?_)
 with_reducible refine (pF w _ _ ae).mono ?_
 rintro e' w3 ⟨rfl,rfl⟩
 refine ⟨_,rfl,fun a hF=>hK _ _ ?_⟩
 refine aH O (fun K hK=>aI hF O ae wZ rfl rfl ?_)
 with_reducible refine (vk w0 _ R A r c 4 _ 4 _ O O ae hbn hc hR hA hl).mono ?_
 rintro e' w4 ⟨v',Z,k',rfl,hk',hZ,hA5⟩
 refine ⟨_,rfl,fun a hF=>hK _ _ ?_⟩
 replace hA5:Hp w0 (Z::R) w4:=hA5
 refine vR hF<|vV O (aJ (v:=v') rfl rfl rfl)<|vV O (aJ (v:= .int .i64 ((k':Nat):Int)) O O O)<|vV O (aJ (v:= .int .i64 (((dN 4 6 r (bnd most 2147483647)).why 0:Nat):Int)) O O O)<|vX O<|vX O<|vX O<|vE hK2 fun a hF=>?_
 apply wp_ret
 refine dn hF Tryz.results131 O O O ?_
 exact ⟨v',Z,k',rfl,hk',hZ,hA5⟩
set_option maxRecDepth 100000 in
set_option maxHeartbeats 4000000 in
theorem CO (w0 w:World) (R:List Seg) (A:Option Addr) (r:List UInt8) (c:Nat) (most each:Int) (hc:r.length≤c) (hR:Rd w0 R A r) (hA:Hp w0 R w) (hl:r.length<140737488354000):Calls Tryz.prog 113 #[.slice A r.length c,.int .i64 most,.int .i64 each] w fun e w'=>∃ v' Z k',e= .returned (.tuple #[v',.int .i64 ((k':Nat):Int),.int .i64 (((df r most each).why 0:Nat):Int)])∧((df r most each).why 0=0→k'=(df r most each).pl 0 0)∧Buf 9 1 Z v' ((df r most each).val [] 0).length (((df r most each).val [] 0).map ak)∧Hp w0 (Z::R) w':=by
 have hbl:=iw most 65535
 have hbn:=yz most 65535 ae
 refine aO Tryz.func113 O Tryz.ntmps113 ai (fun a hF=>?_)
 by_cases hk:r.length<2
 ·obtain ⟨n1,n2,n3⟩:=ig (show cO 2 r= .no 8 from if_pos hk) 0
  have e1:df r most each= .no 8:=if_pos hk
  refine wS hF fun K1 hK1=>vX O<|vX O<|vX O<|vE hK1<|wT fun K2 hK2=>vX O fun a hF=>?_
  refine aH O (fun K hK=>aI hF O ae mJ rfl rfl ?_)
  with_reducible refine (iY w0 _ _ A r c 2 2 O ae hR hA hl).mono ?_
  rintro e' w3 ⟨rfl,rfl⟩
  refine ⟨_,rfl,fun a hF=>hK _ _ ?_⟩
  rw [n1,n2,n3] at hF
  refine vR hF<|vX O<|vV O (aJ (v:= .int .u64 ((0:Nat):Int)) O O O)<|vV O (aJ (v:= .int .i64 ((0:Nat):Int)) O O O)<|vV O (aJ (v:= .int .i64 ((8:Nat):Int)) O O O)<|vX O<|vX O<|vX O<|vE hK2<|wQ fun K3 hK3=>wT fun K4 hK4=>vX O<|vV O (aG O O O O O)<|vE hK4 fun a hF=>?_
  refine aF hF O (fO ae) ?_
  refine wS hF fun K5 hK5=>vX O<|vX O<|vX O<|vX O<|vE hK5 fun a hF=>?_
  apply wp_ret
  simp only [Exit.then]
  refine dn hF Tryz.results113 O O O ?_
  obtain ⟨h1,h2,h3⟩:=ig e1 []
  rw [h1,h3]
  exact ⟨_,[],0,rfl,(fun h=>absurd h ae),Buf.nil _ _,Hp.nil hA⟩
 ·obtain ⟨n1,n2,n3⟩:=lu (show cO 2 r= .ok (num (r.take 2)) 2 from if_neg hk) 0
  have hnb:=tN r
  obtain ⟨n,hnn⟩:∃ n,n=num (r.take 2):=⟨_,rfl⟩
  rw [← hnn] at n1 hnb
  refine wS hF fun K6 hK6=>vX O<|vX O<|vX O<|vE hK6<|wT fun K7 hK7=>vX O fun a hF=>?_
  refine aH O (fun K hK=>aI hF O ae mJ rfl rfl ?_)
  with_reducible refine (iY w0 _ _ A r c 2 2 O ae hR hA hl).mono ?_
  rintro e' w6 ⟨rfl,rfl⟩
  refine ⟨_,rfl,fun a hF=>hK _ _ ?_⟩
  rw [n1,n2,n3] at hF
  refine vR hF<|vX O<|vV O (aJ (v:= .int .u64 ((n:Nat):Int)) O O O)<|vV O (aJ (v:= .int .i64 ((2:Nat):Int)) O O O)<|vV O (aJ (v:= .int .i64 ((0:Nat):Int)) O O O)<|vX O<|vX O<|vX O<|vE hK7<|wQ fun K8 hK8=>wT fun K9 hK9=>vX O<|vV O (aG O O O O O)<|vE hK9 fun a hF=>?_
  refine ay hF O (eP rfl) ?_
  apply wp_skip
  refine hK8 _ _ ?_
  apply wp_seq_k; intro K10 hK10
  refine wS hF fun K11 hK11=>vX O<|vX O fun a hF=>?_
  refine aH O (fun K hK=>aI hF O ae qC rfl rfl ?_)
  with_reducible refine (pF w _ _ ae).mono ?_
  rintro e' w9 ⟨rfl,rfl⟩
  refine ⟨_,rfl,fun a hF=>hK _ _ ?_⟩
  refine vR hF<|vV O (bI O Lh Lu O (show IntKind.u64.wrap (bnd most 65535)=bnd most 65535 by rw [IntKind.wrap_u64]; omega)) fun a hF=>?_
  refine vR hF<|vV O (aG O O O O O)<|vE hK11 fun a hF=>?_
  by_cases hm1:bnd most 65535<(n:Int)
  ·refine aF hF O (fA ag) ?_
   have e1:df r most each= .no 7:=by rw [df,if_neg hk,← hnn,if_pos hm1]
   refine wS hF fun K12 hK12=>vX O<|vX O<|vX O<|vE hK12 fun a hF=>?_
   apply wp_ret
   simp only [Exit.then]
   refine dn hF Tryz.results113 O O O ?_
   obtain ⟨h1,h2,h3⟩:=ig e1 []
   rw [h1,h3]
   exact ⟨_,[],0,rfl,(fun h=>absurd h ae),Buf.nil _ _,Hp.nil hA⟩
  ·refine ay hF O (fC ag) ?_
   have hE:df r most each=fK each n [] 2 (r.drop 2):=by rw [df,if_neg hk,← hnn,if_neg hm1]
   apply wp_skip
   refine hK10 _ _ ?_
   refine wS hF fun K13 hK13=>vX O<|vE hK13<|wQ fun K14 hK14=>wT fun K15 hK15=>vX O<|vE hK15<|wBk fun a hF=>?_
   have hA10:Hp w0 (([]:Seg)::R) w:=Hp.nil hA
   refine bM (G:=Nat) (fun i a x=>∃ (ss:List (List UInt8)) (q:Nat) (v1:Value) (Z1:Seg),i≤n∧ss.length=i∧q≤r.length∧df r most each=fK each (n-i) ss q (r.drop q)∧Buf 9 1 Z1 v1 ss.length (ss.map ak)∧Fr 69 [(13,.int .i64 (i:Int)),(12,v1),(10,.int .i64 (q:Int)),(0,.slice A r.length c),(2,.int .i64 each),(9,.int .u64 ((n:Nat):Int))] a∧Hp w0 (Z1::R) x) (fun i=>n-i) 0 (⟨[],2,_,[],KW _,rfl,ag,hE,Buf.nil _ _,hF.keep [13,12,10,0,2,9] rfl,hA10⟩) ?_
   clear hF
   rintro i a w12 ⟨ss,q,v1,Z1,hi,hss,hql,hE,hZ,hF,hA11⟩
   apply wp_seq_k; intro K16 hK16
   refine wS hF fun K17 hK17=>vX O<|vX O<|vV O (bI O Lu Lh O (KX _ ag))<|vV O (aG O O O O O)<|vE hK17 fun a hF=>?_
   by_cases hlt:i<n
   ·refine aF hF O (dM ag) ?_
    rw [show n-i=(n-(i+1))+1 by omega,fK] at hE
    have hdl:(r.drop q).length=r.length-q:=List.length_drop
    obtain ⟨A1,c1,rfl,hc1,hR1⟩:=hZ.rc (w0:=w0) (R:=[Z1]) (La ..)
    cases hr:bW (r.drop q) each with
    | no e =>
     have he:=o7 hr
     obtain ⟨t1,_,t3⟩:=ig hr []
     rw [hr] at hE
     simp only at hE
     apply wp_skip
     refine hK16 _ _ ?_
     apply wp_seq_k; intro K18 hK18
     apply wp_block
     refine wS hF fun K19 hK19=>vX O<|vX O<|vV O (eX O KY tq O (.some rfl rfl) (.none _) ag ag rfl)<|vX O fun a hF=>?_
     refine aH O (fun K hK=>aI hF O ae xk rfl rfl ?_)
     with_reducible refine (oK w0 _ (Z1::R) _ (r.drop q) _ _ each hdl.symm ag ((hR.drop q hc).mono (bF (dH))) hA11 ag).mono ?_
     rintro e' w13 ⟨k',rfl,hk',hA14⟩
     refine ⟨_,rfl,fun a hF=>hK _ _ ?_⟩
     replace hA14:Hp w0 (Z1::R) w13:=hA14
     rw [t1,t3] at hF
     refine vR hF<|vX O<|vV O (aJ (v:=ak []) O O O)<|vV O (aJ (v:= .int .i64 ((k':Nat):Int)) O O O)<|vV O (aJ (v:= .int .i64 (e:Int)) O O O)<|vX O<|vX O<|vX O<|vE hK19<|wQ fun K20 hK20=>wT fun K21 hK21=>vX O<|vV O (aG O O O O O)<|vE hK21 fun a hF=>?_
     refine aF hF O (fO (show (e:Int)≠0 by omega)) ?_
     refine wS hF fun K22 hK22=>vX O<|vX O<|vX O<|vX O<|vE hK22 fun a hF=>?_
     apply wp_ret
     simp only [Exit.then,Exit.inBlock]
     refine dn hF Tryz.results113 O O O ?_
     have hA15:Hp w0 (R) w13:=hpS 1 [] [0] hA14 rfl
     obtain ⟨h1,h2,h3⟩:=ig hE []
     rw [h1,h3]
     exact ⟨_,[],0,rfl,(fun h=>absurd h ag),Buf.nil _ _,Hp.nil hA15⟩
    | ok t k =>
     have hle:=kD hr
     rw [List.length_drop] at hle
     obtain ⟨t1,t2,t3⟩:=lu hr []
     rw [hr] at hE
     simp only at hE
     apply wp_skip
     refine hK16 _ _ ?_
     apply wp_seq_k; intro K23 hK23
     apply wp_block
     refine wS hF fun K24 hK24=>vX O<|vX O<|vV O (eX O KY tq O (.some rfl rfl) (.none _) ag ag rfl)<|vX O fun a hF=>?_
     refine aH O (fun K hK=>aI hF O ae xk rfl rfl ?_)
     with_reducible refine (oK w0 _ (Z1::R) _ (r.drop q) _ _ each hdl.symm ag ((hR.drop q hc).mono (bF (dH))) hA11 ag).mono ?_
     rintro e' w16 ⟨k',rfl,hk',hA17⟩
     refine ⟨_,rfl,fun a hF=>hK _ _ ?_⟩
     replace hA17:Hp w0 (Z1::R) w16:=hA17
     obtain rfl:k'=k:=(hk' t3).trans t2
     rw [t1,t3] at hF
     refine vR hF<|vX O<|vV O (aJ (v:=ak t) rfl rfl rfl)<|vV O (aJ (v:= .int .i64 ((k':Nat):Int)) O O O)<|vV O (aJ (v:= .int .i64 ((0:Nat):Int)) O O O)<|vX O<|vX O<|vX O<|vE hK24<|wQ fun K25 hK25=>wT fun K26 hK26=>vX O<|vV O (aG O O O O O)<|vE hK26 fun a hF=>?_
     refine ay hF O (eP rfl) ?_
     by_cases hi0:i=0
     ·have h00:ss=[]:=List.length_eq_zero_iff.1 ag
      rw [if_neg (fun h=>h.1 h00)] at hE
      apply wp_skip
      refine hK25 _ _ ?_
      apply wp_seq_k; intro K27 hK27
      refine wS hF fun K28 hK28=>vX O<|vV O (aG O O O O (fC ag))<|vX O<|vS O<|vS O<|vS O<|vS O<|vS O<|vS O<|vS O<|vV O (dB O O O)<|vE hK28<|vF1 O<|wKp hK27<|wT fun K29 hK29=>vX O<|vX O fun a hF=>?_
      refine aH O (fun K hK=>uo hF O ae rfl hA17 O (uq t) (fun b18 w19 a hb18 hF hA20=>hK _ _ ?_))
      refine aH O (fun K hK=>bG hF O ae rfl hA20 1 O hZ KU lY rfl rfl (Rc.srcC (W:=[ak t]) (m:=1) (size:=1) (R:=[row b18 9 [ak t]]::Z1::R) (Rc.ofRow (i:=0) (off:=0) rfl rfl) hA20.q KU ae rfl (by simp [Value.oneCell'])) ag ae (fun v2 Z2 w21 a hZ2 hF hA22=>hK _ _ ?_))
      replace hA22:Hp w0 ([row b18 9 [ak t]]::Z2::R) w21:=hA22
      replace hZ2:Buf 9 1 Z2 v2 (ss++[t]).length ((ss++[t]).map ak):=by rw [List.length_append,List.map_append]; exact hZ2
      refine vR hF<|vX O<|vE hK29 fun a hF=>?_
      refine wp_region_lit ?_
      refine vR hF<|vX O<|vX O<|vV O (bU O O O (KX _ ag))<|vX O fun a hF=>aK<|hK23 _ _ ?_
      refine wp_region_lit ?_
      refine vR hF<|vX O<|vV O (bU O O O (KX _ ag))<|vX O fun a hF=>?_
      refine aK ?_
      have hA23:Hp w0 (Z2::R) w21:=hpS 2 [1] [0] hA22 rfl
      exact ⟨i+1,ag,ss++[t],q+k',v2,Z2,ag,by rw [List.length_append,hss]; rfl,ag,by rw [hE,List.drop_drop],hZ2,hF.keep [13,12,10,0,2,9] rfl,hA23⟩
     ·obtain ⟨u,hu⟩:∃ u,ss[ss.length-1]? = some u:=⟨_,List.getElem?_eq_getElem ag⟩
      have hlast:ss.getLastD []=u:=by rw [List.getLastD_eq_getLast?,List.getLast?_eq_getElem?,hu]; rfl
      obtain ⟨b1,o1,rfl,hcc⟩:=hR1.ne (i:=ss.length-1) (by rw [List.length_map]; omega)
      rw [hlast] at hE
      by_cases hge:bf .geq u t=true
      ·rw [if_pos (show ss≠[]∧bf .geq u t=true from ⟨fun e=>by rw [e] at hss; exact hi0 hss.symm,hge⟩)] at hE
       apply wp_skip
       refine hK25 _ _ ?_
       apply wp_seq_k; intro K30 hK30
       refine wS hF fun K31 hK31=>vX O<|vV O (aG O O O O (fA ag))<|vX O<|vG O (aX O O)<|vG O (aX O O)<|vG O (aX O O)<|vG O (eU (r:=((ss.length-1:Nat):Int)) O O O (by rw [KX _ ag]; omega)) fun a hF=>?_
       refine vR hF<|vG O (bT O KU sZ O O (ss.length-1) rfl ag (ad2 _ _ _))<|vG O (dQ (u:=ak u) rfl (Hq.sub hA17.q (IB ((La ..)))) O hcc (ss.length-1) (by rw [List.length_map]; omega) rfl (by rw [List.getElem?_map,hu]; rfl) tZ) fun a hF=>?_
       refine vR hF<|vG O (dR O O O O (((uT _ _).trans hge)))<|vV O (dB O O O)<|vE hK31<|vT1 O<|wT fun K32 hK32=>vX O<|vX O<|vX O<|vE hK32 fun a hF=>?_
       apply wp_ret
       simp only [Exit.then,Exit.inBlock]
       refine dn hF Tryz.results113 O O O ?_
       have hA24:Hp w0 (R) w16:=hpS 1 [] [0] hA17 rfl
       obtain ⟨h1,h2,h3⟩:=ig hE []
       rw [h1,h3]
       exact ⟨_,[],0,rfl,(fun h=>absurd h ae),Buf.nil _ _,Hp.nil hA24⟩
      ·replace hge:bf .geq u t=false:=by simpa using hge
       rw [if_neg (show ¬(ss≠[]∧bf .geq u t=true) from fun h=>by rw [hge] at h; exact absurd h.2 ae)] at hE
       apply wp_skip
       refine hK25 _ _ ?_
       apply wp_seq_k; intro K33 hK33
       refine wS hF fun K34 hK34=>vX O<|vV O (aG O O O O (fA ag))<|vX O<|vG O (aX O O)<|vG O (aX O O)<|vG O (aX O O)<|vG O (eU (r:=((ss.length-1:Nat):Int)) O O O (by rw [KX _ ag]; omega)) fun a hF=>?_
       refine vR hF<|vG O (bT O KU sZ O O (ss.length-1) rfl ag (ad2 _ _ _))<|vG O (dQ (u:=ak u) rfl (Hq.sub hA17.q (IB ((La ..)))) O hcc (ss.length-1) (by rw [List.length_map]; omega) rfl (by rw [List.getElem?_map,hu]; rfl) tZ) fun a hF=>?_
       refine vR hF<|vG O (dR O O O O (((uT _ _).trans hge)))<|vV O (dB O O O)<|vE hK34<|vF1 O<|wKp hK33<|wT fun K35 hK35=>vX O<|vX O fun a hF=>?_
       refine aH O (fun K hK=>uo hF O ae rfl hA17 O (uq t) (fun b25 w26 a hb25 hF hA27=>hK _ _ ?_))
       refine aH O (fun K hK=>bG hF O ae rfl hA27 1 O hZ KU lY rfl rfl (Rc.srcC (W:=[ak t]) (m:=1) (size:=1) (R:=[row b25 9 [ak t]]::Z1::R) (Rc.ofRow (i:=0) (off:=0) rfl rfl) hA27.q KU ae rfl (by simp [Value.oneCell'])) ag ae (fun v2 Z2 w28 a hZ2 hF hA29=>hK _ _ ?_))
       replace hA29:Hp w0 ([row b25 9 [ak t]]::Z2::R) w28:=hA29
       replace hZ2:Buf 9 1 Z2 v2 (ss++[t]).length ((ss++[t]).map ak):=by rw [List.length_append,List.map_append]; exact hZ2
       refine vR hF<|vX O<|vE hK35 fun a hF=>?_
       refine wp_region_lit ?_
       refine vR hF<|vX O<|vX O<|vV O (bU O O O (KX _ ag))<|vX O fun a hF=>aK<|hK23 _ _ ?_
       refine wp_region_lit ?_
       refine vR hF<|vX O<|vV O (bU O O O (KX _ ag))<|vX O fun a hF=>?_
       refine aK ?_
       have hA30:Hp w0 (Z2::R) w28:=hpS 2 [1] [0] hA29 rfl
       exact ⟨i+1,ag,ss++[t],q+k',v2,Z2,ag,by rw [List.length_append,hss]; rfl,ag,by rw [hE,List.drop_drop],hZ2,hF.keep [13,12,10,0,2,9] rfl,hA30⟩
   ·refine ay hF O (dG ag) ?_
    obtain rfl:i=n:=by omega
    rw [Nat.sub_self,fK] at hE
    apply wp_exit
    refine hK14 _ _ ?_
    refine wS hF fun K36 hK36=>vX O<|vX O<|vX O<|vX O<|vX O<|vE hK36 fun a hF=>?_
    apply wp_ret
    refine dn hF Tryz.results113 O O O ?_
    obtain ⟨h1,h2,h3⟩:=lu hE []
    rw [h1,h2,h3]
    exact ⟨v1,Z1,q,rfl,(fun _=>rfl),hZ,hA11⟩
end Go.Proofs.YtepbmdlgdaedpaaGreatDoor
