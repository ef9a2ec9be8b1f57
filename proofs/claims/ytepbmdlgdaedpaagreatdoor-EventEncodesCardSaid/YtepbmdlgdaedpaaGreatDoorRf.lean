/- The reference's forms. -/
import Derived.Test.YtepbmdlgdaedpaaGreatDoorKb
import Derived.Test.YtepbmdlgdaedpaaGreatDoorOctetH
import Derived.Test.YtepbmdlgdaedpaaGreatDoorBook1
/- The reference's forms. -/
namespace Go.Proofs.YtepbmdlgdaedpaaGreatDoor
open Go.RowKit Go.Dk
theorem wz (i n:Nat):be (i+1) n=UInt8.ofNat (n/256 ^ i)::be i n:=by
 unfold be
 rw [List.range_succ_eq_map,List.map_cons,List.map_map]
 refine congrArg _ (List.map_congr_left (fun j hj=>?_))
 rw [List.mem_range] at hj
 show UInt8.ofNat (n/256 ^ (i+1-1-(j+1)))=_
 rw [show i+1-1-(j+1)=i-1-j by omega]
theorem GX (K i n:Nat) (hi:i<K):(dc (List.replicate (K-i) 0++be i n)).set (0+(K-1-i)) (.int .u8 ((UInt8.ofNat (n/256 ^ i)).toNat:Int))=dc (List.replicate (K-(i+1)) 0++be (i+1) n):=by
 obtain ⟨m,rfl⟩:∃ m,K=m+1+i:=⟨K-1-i,ag⟩
 rw [show m+1+i-i=m+1 by omega,show 0+(m+1+i-1-i)=m by omega,show m+1+i-(i+1)=m by omega,wz]
 have h:=set_mid (B:=[]) (W:=dc (List.replicate m 0)) (Z:=dc (0::be i n)) (j:=m) (u:= .int .u8 ((UInt8.ofNat (n/256 ^ i)).toNat:Int)) (by rw [aS,List.length_replicate]) (by rw [aS,List.length_cons]; omega)
 simp only [List.nil_append,List.length_nil,Nat.zero_add] at h
 rw [List.replicate_succ',List.append_assoc,List.singleton_append]
 unfold dc at h ⊢
 rw [List.map_append,h,List.map_append]
 rfl
set_option maxRecDepth 100000 in
set_option maxHeartbeats 4000000 in
theorem yS (w0 w:World) (R:List Seg) (n kk:Nat) (z0 z:Int) (h0:z0=n) (hz:z=kk) (hK:kk≤8) (hA:Hp w0 R w):Calls Tryz.prog 157 #[.int .u64 z0,.int .i64 z] w fun e w'=>∃ g,e= .returned (.slice (some ⟨g,0,none⟩) kk kk)∧Hp w0 ([row g 5 (dc (be kk n))]::R) w':=by
 subst h0 hz
 refine aN Tryz.func157 O Tryz.ntmps157 ai (fun a hF=>?_)
 refine wS hF fun K1 hK1=>vX O<|vE hK1 fun a hF=>?_
 clear hK1 K1
 refine wS hF fun K2 hK2=>vX O fun a hF=>?_
 refine aI O (fun K hK=>lw (size:=1) (bytes:=1) (u:= .int .u8 0) hF O ae rfl hA JG oH ae kk rfl rfl ag ag ag ag (fun b1 w2 a hb1 hF hA3=>hK _ _ ?_))
 clear hK K
 have hA4:Hp w0 ([row b1 5 (dc (List.replicate (kk-0) 0++be 0 n))]::R) w2:=by
  have e:dc (List.replicate (kk-0) 0++be 0 n)=List.replicate (kk*1) (.int .u8 0):=by simp [dc,be]
  rw [e]; exact hA3
 refine vR hF<|vX O<|vE hK2 fun a hF=>?_
 clear hK2 K2
 apply wp_seq_k; intro K3 hK3
 refine wS hF fun K4 hK4=>vX O<|vE hK4 fun a hF=>?_
 clear hK4 K4
 apply wp_block
 refine bz (G:=Nat) (fun i a x=>i≤kk∧Fr 27 [(6,.int .i64 (i:Int)),(0,.int .u64 ((n:Nat):Int)),(1,.int .i64 ((kk:Nat):Int)),(5,.slice (some ⟨b1,0,none⟩) kk kk)] a∧Hp w0 ([row b1 5 (dc (List.replicate (kk-i) 0++be i n))]::R) x) (fun i=>kk-i) 0 (⟨JE _,hF.keep [6,0,1,5] rfl,hA4⟩) ?_
 clear hF
 rintro i a w6 ⟨hi,hF,hA5⟩
 apply wp_seq_k; intro K5 hK5
 refine wS hF fun K6 hK6=>vX O<|vX O<|vV O (aG O O O O O)<|vE hK6 fun a hF=>?_
 clear hK6 K6
 by_cases hlt:i<kk
 ·refine aF hF O (dB ag) ?_
  apply wp_skip
  refine hK5 _ _ ?_; clear  hK5 K5
  apply wp_seq_k; intro K7 hK7
  apply wp_block
  refine wp_region_lit ?_
  refine vR hF<|vX O<|vX O<|vV O (eY (r:=((kk-1:Nat):Int)) O O O (by rw [JF _ ag]; omega)) fun a hF=>?_
  refine vR hF<|vX O<|vV O (eY (r:=((kk-1-i:Nat):Int)) O O O (by rw [JF _ ag]; omega)) fun a hF=>?_
  refine vR hF<|vX O<|vX O<|vV O (sJ (r:=((8*i:Nat):Int)) O O O (by rw [JF _ ag]; omega)) fun a hF=>?_
  refine vR hF<|vV O (bM O JM Tryz.underlying38 O (show IntKind.u64.wrap (((8*i:Nat):Int))=((8*i:Nat):Int) by rw [IntKind.wrap_u64]; omega)) fun a hF=>?_
  refine vR hF<|vV O (kX O O O ag rfl)<|vV O (bM (r:=((UInt8.ofNat (n/256 ^ i)).toNat:Int)) O JW JV O (oh n i (8*i) rfl ag))<|vV O (bI O JG qR O O (kk-1-i) rfl ag (ad2 _ _ _)) fun a hF=>?_
  refine aI O (fun K hK=>bH hF O O hA5 O O 0 O (by rw [aS,List.length_append,List.length_replicate,bf]; omega) rfl qR (fun w7 hA8=>hK _ _ ?_))
  clear hK K
  replace hA8:Hp w0 ([row b1 5 ((dc (List.replicate (kk-i) 0++be i n)).set (0+(kk-1-i)) (.int .u8 ((UInt8.ofNat (n/256 ^ i)).toNat:Int)))]::R) w7:=hA8
  have hA9:Hp w0 ([row b1 5 (dc (List.replicate (kk-(i+1)) 0++be (i+1) n))]::R) w7:=by
   rw [← GX kk i n hlt]; exact hA8
  refine aJ<|hK7 _ _ ?_
  clear hK7 K7
  refine wp_region_lit ?_
  refine vR hF<|vX O<|vV O (bK O O O (JF _ ag))<|vX O fun a hF=>?_
  refine aJ ?_
  exact ⟨i+1,ag,ag,hF.keep [6,0,1,5] rfl,hA9⟩
 ·refine az hF O (dw ag) ?_
  obtain rfl:i=kk:=by omega
  apply wp_exit
  refine hK3 _ _ ?_; clear hK5 K5 hK3 K3
  refine wS hF fun K8 hK8=>vX O<|vX O<|vE hK8 fun a hF=>?_
  clear hK8 K8
  apply wp_ret
  refine aK hF Tryz.results157 O ?_
  rw [Nat.sub_self,List.replicate_zero,List.nil_append] at hA5
  exact ⟨_,rfl,hA5⟩
end Go.Proofs.YtepbmdlgdaedpaaGreatDoor
