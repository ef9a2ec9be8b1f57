/- Texts that belong together, one behind the other. -/
import Derived.Test.YtepbmdlgdaedpaaGreatDoorKb
import Derived.Test.YtepbmdlgdaedpaaGreatDoorOctetH
import Derived.Test.YtepbmdlgdaedpaaGreatDoorHc
import Derived.Test.YtepbmdlgdaedpaaGreatDoorEv9
import Derived.Test.YtepbmdlgdaedpaaGreatDoorOpenR
namespace Go.Proofs.YtepbmdlgdaedpaaGreatDoor
open Go.RowKit Go.Dk
theorem AX (i n:Nat):be (i+1) n=UInt8.ofNat (n/256 ^ i)::be i n:=by
 unfold be
 rw [List.range_succ_eq_map,List.map_cons,List.map_map]
 refine congrArg _ (List.map_congr_left (fun j hj=>?_))
 rw [List.mem_range] at hj
 show UInt8.ofNat (n/256 ^ (i+1-1-(j+1)))=_
 rw [show i+1-1-(j+1)=i-1-j by omega]
theorem Nz (K i n:Nat) (hi:i<K):(dc (List.replicate (K-i) 0++be i n)).set (0+(K-1-i)) (.int .u8 ((UInt8.ofNat (n/256 ^ i)).toNat:Int))=dc (List.replicate (K-(i+1)) 0++be (i+1) n):=by
 obtain ⟨m,rfl⟩:∃ m,K=m+1+i:=⟨K-1-i,ag⟩
 rw [show m+1+i-i=m+1 by omega,show 0+(m+1+i-1-i)=m by omega,show m+1+i-(i+1)=m by omega,AX]
 have h:=set_mid (B:=[]) (W:=dc (List.replicate m 0)) (Z:=dc (0::be i n)) (j:=m) (u:= .int .u8 ((UInt8.ofNat (n/256 ^ i)).toNat:Int)) (by rw [aI,List.length_replicate]) (by rw [aI,List.length_cons]; omega)
 simp only [List.nil_append,List.length_nil,Nat.zero_add] at h
 rw [List.replicate_succ',List.append_assoc,List.singleton_append]
 unfold dc at h ⊢
 rw [List.map_append,h,List.map_append]
 rfl
set_option maxRecDepth 100000 in
set_option maxHeartbeats 4000000 in
theorem Ew (w0 w:World) (R:List Seg) (n kk:Nat) (z0 z:Int) (h0:z0=n) (hz:z=kk) (hK:kk≤8) (hA:Hp w0 R w):Calls Tryz.prog 157 #[.int .u64 z0,.int .i64 z] w fun e w'=>∃ g,e= .returned (.slice (some ⟨g,0,none⟩) kk kk)∧Hp w0 ([row g 5 (dc (be kk n))]::R) w':=by
 subst h0 hz
 refine aQ Tryz.func157 O Tryz.ntmps157 ai (fun a hF=>?_)
 refine wS hF fun K1 hK1=>vX O<|vE hK1 fun a hF=>?_
 clear hK1 K1
 refine wS hF fun K2 hK2=>vX O fun a hF=>?_
 refine az O (fun K hK=>lu (size:=1) (bytes:=1) (u:= .int .u8 0) hF O ae rfl hA PZ BC ae kk rfl rfl ag ag ag ag (fun b1 w2 a hb1 hF hA3=>hK _ _ ?_))
 clear hK K
 have hA4:Hp w0 ([row b1 5 (dc (List.replicate (kk-0) 0++be 0 n))]::R) w2:=by
  have e:dc (List.replicate (kk-0) 0++be 0 n)=List.replicate (kk*1) (.int .u8 0):=by simp [dc,be]
  rw [e]; exact hA3
 refine vR hF<|vX O<|vE hK2 fun a hF=>?_
 clear hK2 K2
 apply wp_seq_k; intro K3 hK3
 refine wS hF fun K4 hK4=>vX O<|vE hK4 fun a hF=>?_
 clear hK4 K4
 apply wp_block
 refine bH (G:=Nat) (fun i a x=>i≤kk∧Fr 27 [(6,.int .i64 (i:Int)),(0,.int .u64 ((n:Nat):Int)),(1,.int .i64 ((kk:Nat):Int)),(5,.slice (some ⟨b1,0,none⟩) kk kk)] a∧Hp w0 ([row b1 5 (dc (List.replicate (kk-i) 0++be i n))]::R) x) (fun i=>kk-i) 0 (⟨PU _,hF.keep [6,0,1,5] rfl,hA4⟩) ?_
 clear hF
 rintro i a w6 ⟨hi,hF,hA5⟩
 apply wp_seq_k; intro K5 hK5
 refine wS hF fun K6 hK6=>vX O<|vX O<|vV O (aB O O O O O)<|vE hK6 fun a hF=>?_
 clear hK6 K6
 by_cases hlt:i<kk
 ·refine aF hF O (dB ag) ?_
  apply wp_skip
  refine hK5 _ _ ?_; clear  hK5 K5
  apply wp_seq_k; intro K7 hK7
  apply wp_block
  refine wp_region_lit ?_
  refine vR hF<|vX O<|vX O<|vV O (dC (r:=((kk-1:Nat):Int)) O O O (by rw [PX _ ag]; omega)) fun a hF=>?_
  refine vR hF<|vX O<|vV O (dC (r:=((kk-1-i:Nat):Int)) O O O (by rw [PX _ ag]; omega)) fun a hF=>?_
  refine vR hF<|vX O<|vX O<|vV O (rW (r:=((8*i:Nat):Int)) O O O (by rw [PX _ ag]; omega)) fun a hF=>?_
  refine vR hF<|vV O (bJ O Qb Qs O (show IntKind.u64.wrap (((8*i:Nat):Int))=((8*i:Nat):Int) by rw [IntKind.wrap_u64]; omega)) fun a hF=>?_
  refine vR hF<|vV O (lX O O O ag rfl)<|vV O (bJ (r:=((UInt8.ofNat (n/256 ^ i)).toNat:Int)) O Qh PW O (tC n i (8*i) rfl ag))<|vV O (bF O PZ Aa rfl rfl (kk-1-i) rfl ag (ad2 _ _ _)) fun a hF=>?_
  refine az O (fun K hK=>bY hF O O hA5 O O 0 O (by rw [aI,List.length_append,List.length_replicate,aY]; omega) rfl Aa (fun w7 hA8=>hK _ _ ?_))
  clear hK K
  replace hA8:Hp w0 ([row b1 5 ((dc (List.replicate (kk-i) 0++be i n)).set (0+(kk-1-i)) (.int .u8 ((UInt8.ofNat (n/256 ^ i)).toNat:Int)))]::R) w7:=hA8
  have hA9:Hp w0 ([row b1 5 (dc (List.replicate (kk-(i+1)) 0++be (i+1) n))]::R) w7:=by
   rw [← Nz kk i n hlt]; exact hA8
  refine aG<|hK7 _ _ ?_
  clear hK7 K7
  refine wp_region_lit ?_
  refine vR hF<|vX O<|vV O (bn O O O (PX _ ag))<|vX O fun a hF=>?_
  refine aG ?_
  exact ⟨i+1,ag,ag,hF.keep [6,0,1,5] rfl,hA9⟩
 ·refine au hF O (dA ag) ?_
  obtain rfl:i=kk:=by omega
  apply wp_exit
  refine hK3 _ _ ?_; clear hK5 K5 hK3 K3
  refine wS hF fun K8 hK8=>vX O<|vX O<|vE hK8 fun a hF=>?_
  clear hK8 K8
  apply wp_ret
  refine aO hF Tryz.results157 O ?_
  rw [Nat.sub_self,List.replicate_zero,List.nil_append] at hA5
  exact ⟨_,rfl,hA5⟩
end Go.Proofs.YtepbmdlgdaedpaaGreatDoor
namespace Go.Proofs.YtepbmdlgdaedpaaGreatDoor
open Go.RowKit Go.Dk
theorem Fv:aP Tryz.prog 108:=⟨_,Tryz.func108,af,af⟩
theorem Fg:aP Tryz.prog 157:=⟨_,Tryz.func157,af,af⟩
theorem Ff:aP Tryz.prog 160:=⟨_,Tryz.func160,af,af⟩
theorem Fe:aP Tryz.prog 161:=⟨_,Tryz.func161,af,af⟩
theorem ww:aP Tryz.prog 194:=⟨_,Tryz.func194,af,af⟩
theorem Fb:aP Tryz.prog 195:=⟨_,Tryz.func195,af,af⟩
theorem Fa:aP Tryz.prog 207:=⟨_,Tryz.func207,af,af⟩
set_option maxRecDepth 100000 in
set_option maxHeartbeats 8000000 in
theorem uX (c:UInt8) (w:World):Calls Tryz.prog 194 #[.int .u8 (c.toNat:Int)] w fun e w'=>e= .returned (.bool (jT c))∧w=w':=by
 refine aQ Tryz.func194 O Tryz.ntmps194 ai (fun a hF=>?_)
 refine wS hF fun K1 hK1=>vX O<|vE hK1<|wT fun K2 hK2=>vX O<|vV O (aB O O O O O)<|vX O fun a hF=>?_
 refine bK (l2:=?lA1) hF [(8,.bool ((aN .geq ((c.toNat:Int)) (97)) && (aN .leq ((c.toNat:Int)) (122)))),(0,.int .u8 (c.toNat:Int)),(2,.bool false)] (fun hJ1=>?elA1) (fun a hF=>?flA1)
 case elA1 =>
  rcases tf (aN .geq ((c.toNat:Int)) (97)) with hg1 | hg1
  ·refine aH hF O O O O O (aJ hg1) ae (fun a hF=>?_)
   refine aH hF O O O O O (aJ hg1) ae (fun a hF=>?_)
   refine vR hF<|vV O (aZ hg1 rfl rfl rfl) fun a hF=>?_
   exact hJ1 _ ((hF.keep [8,0,2] (F':=[(8,_),(0,_),(2,_)]) O).bool (by rw [hg1]; rfl))
  ·refine aK hF O O O O (aj hg1) ae _ (aV O O) (fun a hF=>?_)
   refine aK hF O O O O (aj hg1) ae _ (aB O O O O O) (fun a hF=>?_)
   refine vR hF<|vV O (bD hg1 rfl rfl rfl) fun a hF=>?_
   exact hJ1 _ ((hF.keep [8,0,2] (F':=[(8,_),(0,_),(2,_)]) O).bool (by rw [hg1]; rfl))
 refine vR hF<|vX O<|vE hK2 fun a hF=>?_
 apply wp_ret
 refine aO hF Tryz.results194 O ?_
 exact ⟨by rw [Dc],rfl⟩
set_option maxRecDepth 100000 in
set_option maxHeartbeats 8000000 in
theorem Gs (c:UInt8) (w:World):Calls Tryz.prog 207 #[.int .u8 (c.toNat:Int)] w fun e w'=>e= .returned (.bool (o7 c))∧w=w':=by
 refine aQ Tryz.func207 O Tryz.ntmps207 ai (fun a hF=>?_)
 refine wS hF fun K1 hK1=>vX O<|vE hK1<|wT fun K2 hK2=>vX O<|vV O (aB O O O O O)<|vX O fun a hF=>?_
 refine bK (l2:=?lA1) hF [(8,.bool ((aN .geq ((c.toNat:Int)) (48)) && (aN .leq ((c.toNat:Int)) (57)))),(0,.int .u8 (c.toNat:Int)),(2,.bool false)] (fun hJ1=>?elA1) (fun a hF=>?flA1)
 case elA1 =>
  rcases tf (aN .geq ((c.toNat:Int)) (48)) with hg1 | hg1
  ·refine aH hF O O O O O (aJ hg1) ae (fun a hF=>?_)
   refine aH hF O O O O O (aJ hg1) ae (fun a hF=>?_)
   refine vR hF<|vV O (aZ hg1 rfl rfl rfl) fun a hF=>?_
   exact hJ1 _ ((hF.keep [8,0,2] (F':=[(8,_),(0,_),(2,_)]) O).bool (by rw [hg1]; rfl))
  ·refine aK hF O O O O (aj hg1) ae _ (aV O O) (fun a hF=>?_)
   refine aK hF O O O O (aj hg1) ae _ (aB O O O O O) (fun a hF=>?_)
   refine vR hF<|vV O (bD hg1 rfl rfl rfl) fun a hF=>?_
   exact hJ1 _ ((hF.keep [8,0,2] (F':=[(8,_),(0,_),(2,_)]) O).bool (by rw [hg1]; rfl))
 refine vR hF<|vX O<|vE hK2 fun a hF=>?_
 apply wp_ret
 refine aO hF Tryz.results207 O ?_
 exact ⟨by rw [Dp],rfl⟩
set_option maxRecDepth 100000 in
set_option maxHeartbeats 8000000 in
theorem JW (c:UInt8) (w:World):Calls Tryz.prog 195 #[.int .u8 (c.toNat:Int)] w fun e w'=>e= .returned (.bool (mF c))∧w=w':=by
 refine aQ Tryz.func195 O Tryz.ntmps195 ai (fun a hF=>?_)
 refine wS hF fun K1 hK1=>vX O<|vE hK1<|wT fun K2 hK2=>vX O fun a hF=>?_
 refine az O (fun K hK=>ay hF O ae ww rfl rfl ?_)
 with_reducible refine (uX c _).mono ?_
 rintro e' w3 ⟨rfl,rfl⟩
 refine ⟨_,rfl,fun a hF=>hK _ _ ?_⟩
 refine vR hF<|vX O fun a hF=>?_
 refine bK (l2:=?lA1) hF [(8,.bool ((jT c) || (o7 c))),(0,.int .u8 (c.toNat:Int)),(2,.bool false)] (fun hJ1=>?elA1) (fun a hF=>?flA1)
 case elA1 =>
  rcases tf (jT c) with hg1 | hg1
  ·refine aK hF O O O O (aj hg1) ae _ (aV O O) (fun a hF=>?_)
   refine dY hF O O O (aj hg1) (fun K hK=>ay hF O ae Fa rfl rfl ?_)
   with_reducible refine (Gs c _).mono ?_
   rintro e' w6 ⟨rfl,rfl⟩
   refine ⟨_,rfl,fun a hF=>hK _ _ ?_⟩
   refine vR hF<|vV O (aZ hg1 rfl rfl rfl) fun a hF=>?_
   exact hJ1 _ ((hF.keep [8,0,2] (F':=[(8,_),(0,_),(2,_)]) O).bool (by rw [hg1]; rfl))
  ·refine aH hF O O O O O (aJ hg1) ae (fun a hF=>?_)
   refine aH hF O O O O O (aJ hg1) ae (fun a hF=>?_)
   refine vR hF<|vV O (bD hg1 rfl rfl rfl) fun a hF=>?_
   exact hJ1 _ ((hF.keep [8,0,2] (F':=[(8,_),(0,_),(2,_)]) O).bool (by rw [hg1]; rfl))
 refine vR hF<|vX O fun a hF=>?_
 refine bK (l2:=?lA2) hF [(12,.bool (((jT c) || (o7 c)) || (aN .eql ((c.toNat:Int)) (95)))),(0,.int .u8 (c.toNat:Int)),(2,.bool false)] (fun hJ2=>?elA2) (fun a hF=>?flA2)
 case elA2 =>
  rcases tf ((jT c) || (o7 c)) with hg2 | hg2
  ·refine aK hF O O O O (aj hg2) ae _ (aV O O) (fun a hF=>?_)
   refine aK hF O O O O (aj hg2) ae _ (aB O O O O O) (fun a hF=>?_)
   refine vR hF<|vV O (aZ hg2 rfl rfl rfl) fun a hF=>?_
   exact hJ2 _ ((hF.keep [12,0,2] (F':=[(12,_),(0,_),(2,_)]) O).bool (by rw [hg2]; rfl))
  ·refine aH hF O O O O O (aJ hg2) ae (fun a hF=>?_)
   refine aH hF O O O O O (aJ hg2) ae (fun a hF=>?_)
   refine vR hF<|vV O (bD hg2 rfl rfl rfl) fun a hF=>?_
   exact hJ2 _ ((hF.keep [12,0,2] (F':=[(12,_),(0,_),(2,_)]) O).bool (by rw [hg2]; rfl))
 refine vR hF<|vX O<|vE hK2 fun a hF=>?_
 apply wp_ret
 refine aO hF Tryz.results195 O ?_
 exact ⟨by rw [xW],rfl⟩
set_option maxRecDepth 100000 in
set_option maxHeartbeats 8000000 in
theorem Ej {w0:World} {R:List Seg} (s:List UInt8) (w:World) (hA:Hp w0 R w):Calls Tryz.prog 160 #[ak s] w fun e w'=>e= .returned (.bool (fO s))∧w=w':=by
 refine aQ Tryz.func160 O Tryz.ntmps160 ai (fun a hF=>?_)
 refine wS hF fun K1 hK1=>vX O<|vE hK1<|wQ fun K2 hK2=>wT fun K3 hK3=>vX O<|vV O (eP (z:=(s.length:Nat)) O P9 O O)<|vV O (aB O O O O O)<|vX O fun a hF=>?_
 refine bK (l2:=?lA1) hF [(11,.bool ((aN .eql ((s.length:Nat)) (0)) || (aN .gtr ((s.length:Nat)) (64)))),(0,ak s),(2,.bool false)] (fun hJ1=>?elA1) (fun a hF=>?flA1)
 case elA1 =>
  rcases tf (aN .eql ((s.length:Nat)) (0)) with hg1 | hg1
  ·refine aK hF O O O O (aj hg1) ae _ (aV O O) (fun a hF=>?_)
   refine aK hF O O O O (aj hg1) ae _ (eP (z:=(s.length:Nat)) O P9 O O) (fun a hF=>?_)
   refine aK hF O O O O (aj hg1) ae _ (aB O O O O O) (fun a hF=>?_)
   refine vR hF<|vV O (aZ hg1 rfl rfl rfl) fun a hF=>?_
   exact hJ1 _ ((hF.keep [11,0,2] (F':=[(11,_),(0,_),(2,_)]) O).bool (by rw [hg1]; rfl))
  ·refine aH hF O O O O O (aJ hg1) ae (fun a hF=>?_)
   refine aH hF O O O O O (aJ hg1) ae (fun a hF=>?_)
   refine aH hF O O O O O (aJ hg1) ae (fun a hF=>?_)
   refine vR hF<|vV O (bD hg1 rfl rfl rfl) fun a hF=>?_
   exact hJ1 _ ((hF.keep [11,0,2] (F':=[(11,_),(0,_),(2,_)]) O).bool (by rw [hg1]; rfl))
 refine vR hF<|vX O fun a hF=>?_
 refine bK (l2:=?lA2) hF [(17,.bool (((aN .eql ((s.length:Nat)) (0)) || (aN .gtr ((s.length:Nat)) (64))) || (!(jT (bAt s 0))))),(0,ak s),(2,.bool false)] (fun hJ2=>?elA2) (fun a hF=>?flA2)
 case elA2 =>
  rcases tf ((aN .eql ((s.length:Nat)) (0)) || (aN .gtr ((s.length:Nat)) (64))) with hg2 | hg2
  ·refine aK hF O O O O (aj hg2) ae _ (aV O O) (fun a hF=>?_)
   refine aK hF O O O O (aj hg2) ae _ (mD O P9 O O 0 O (zo hg2)) (fun a hF=>?_)
   refine dY hF O O O (aj hg2) (fun K hK=>ay hF O ae ww rfl rfl ?_)
   with_reducible refine (uX (bAt s 0) _).mono ?_
   rintro e' w3 ⟨rfl,rfl⟩
   refine ⟨_,rfl,fun a hF=>hK _ _ ?_⟩
   refine aK hF O O O O (aj hg2) ae _ (dK O O O) (fun a hF=>?_)
   refine vR hF<|vV O (aZ hg2 rfl rfl rfl) fun a hF=>?_
   exact hJ2 _ ((hF.keep [17,0,2] (F':=[(17,_),(0,_),(2,_)]) O).bool (by rw [hg2]; rfl))
  ·refine aH hF O O O O O (aJ hg2) ae (fun a hF=>?_)
   refine aH hF O O O O O (aJ hg2) ae (fun a hF=>?_)
   refine aH hF O O O O O (aJ hg2) ae (fun a hF=>?_)
   refine aH hF O O O O O (aJ hg2) ae (fun a hF=>?_)
   refine vR hF<|vV O (bD hg2 rfl rfl rfl) fun a hF=>?_
   exact hJ2 _ ((hF.keep [17,0,2] (F':=[(17,_),(0,_),(2,_)]) O).bool (by rw [hg2]; rfl))
 refine aG<|hK3 _ _ ?_
 rcases tf (((aN .eql ((s.length:Nat)) (0)) || (aN .gtr ((s.length:Nat)) (64))) || (!(jT (bAt s 0)))) with hs | hs
 ·refine au hF O hs ?_
  obtain ⟨hl1,hl2,hl3⟩:=qE hs
  apply wp_skip
  refine hK2 _ _ ?_
  apply wp_seq_k; intro K4 hK4
  refine wS hF fun K5 hK5=>vX O<|vE hK5<|wBk fun a hF=>?_
  refine bH (G:=Nat) (fun i a x=>i≤s.length∧(s.take i).all mF=true∧w=x∧Fr 29 [(3,.int .i64 (i:Int)),(0,ak s)] a∧Hp w0 (R) x) (fun i=>s.length-i) 0 (⟨PU _,rfl,rfl,hF.keep [3,0] rfl,hA⟩) ?_
  clear hF
  rintro i a w5 ⟨hi,hall,hww,hF,hA4⟩
  apply wp_seq_k; intro K6 hK6
  refine wS hF fun K7 hK7=>vX O<|vX O<|vV O (eP (z:=(s.length:Nat)) O P9 O O)<|vV O (aB O O O O O)<|vE hK7 fun a hF=>?_
  by_cases hlt:i<s.length
  ·refine aF hF O (dB ag) ?_
   have hat:=qx (l:=s) hlt
   apply wp_skip
   refine hK6 _ _ ?_
   apply wp_seq_k; intro K8 hK8
   apply wp_block
   refine wS hF fun K9 hK9=>vX O<|vX O<|vV O (mD O P9 O O i rfl hat) fun a hF=>?_
   refine az O (fun K hK=>ay hF O ae Fb rfl rfl ?_)
   with_reducible refine (JW (bAt s i) _).mono ?_
   rintro e' w8 ⟨rfl,rfl⟩
   refine ⟨_,rfl,fun a hF=>hK _ _ ?_⟩
   refine vR hF<|vV O (dK O O O)<|vE hK9 fun a hF=>?_
   rcases tf (mF (bAt s i)) with hw | hw
   ·refine aF hF O (by rw [hw]; rfl) ?_
    refine wS hF fun K10 hK10=>vX O<|vE hK10 fun a hF=>?_
    apply wp_ret
    simp only [Exit.then,Exit.inBlock]
    refine aO hF Tryz.results160 O ?_
    exact ⟨by rw [sN hlt hw],hww⟩
   ·refine au hF O (by rw [hw]; rfl) ?_
    apply wp_skip
    refine hK8 _ _ ?_
    refine wp_region_lit ?_
    refine vR hF<|vX O<|vV O (bn O O O (PX _ ag))<|vX O fun a hF=>?_
    refine aG ?_
    exact ⟨i+1,ag,ag,uz hat hall hw,hww,hF.keep [3,0] rfl,hA4⟩
  ·refine au hF O (dA ag) ?_
   obtain rfl:i=s.length:=by omega
   apply wp_exit
   refine hK4 _ _ ?_
   refine wS hF fun K11 hK11=>vX O<|vE hK11 fun a hF=>?_
   apply wp_ret
   refine aO hF Tryz.results160 O ?_
   exact ⟨by rw [qF ⟨hl1,hl2,hl3⟩ hall],hww⟩
 ·refine aF hF O hs ?_
  refine wS hF fun K12 hK12=>vX O<|vE hK12 fun a hF=>?_
  apply wp_ret
  simp only [Exit.then]
  refine aO hF Tryz.results160 O ?_
  exact ⟨by rw [qC hs],rfl⟩
def Jz (w0:World):Prop:=Rc w0 [] (some ⟨0,0,none⟩) (reserved.map ak)
set_option maxRecDepth 100000 in
set_option maxHeartbeats 8000000 in
theorem yx {w0:World} {R:List Seg} (s:List UInt8) (w:World) (hT:Jz w0) (hA:Hp w0 R w):Calls Tryz.prog 161 #[ak s] w fun e w'=>e= .returned (.bool (reserved.contains s))∧w=w':=by
 obtain ⟨_,_,hb,hc⟩:=hT.ne (i:=0) ae
 injection hb with hb
 injection hb with hb1 hb2
 subst hb1 hb2
 refine aQ Tryz.func161 O Tryz.ntmps161 ai (fun a hF=>?_)
 refine wS hF fun K1 hK1=>vX O<|vE hK1<|wQ fun K2 hK2=>wT fun K3 hK3=>vX O<|vE hK3<|wBk fun a hF=>?_
 refine bH (G:=Nat) (fun i a x=>i≤35∧¬ s∈reserved.take i∧w=x∧Fr 13 [(3,.int .i64 (i:Int)),(0,ak s)] a∧Hp w0 (R) x) (fun i=>35-i) 0 (⟨ae,(by simp),rfl,hF.keep [3,0] rfl,hA⟩) ?_
 clear hF
 rintro i a w2 ⟨hi,hno,hww,hF,hA1⟩
 apply wp_seq_k; intro K4 hK4
 refine wS hF fun K5 hK5=>vX O<|vV O (aB O O O O O)<|vE hK5 fun a hF=>?_
 by_cases hlt:i<35
 ·refine aF hF O (dB ag) ?_
  obtain ⟨u,hu⟩:∃ u,reserved[i]? = some u:=⟨_,List.getElem?_eq_getElem (show i<reserved.length from hlt)⟩
  apply wp_skip
  refine hK4 _ _ ?_
  apply wp_seq_k; intro K6 hK6
  apply wp_block
  refine wS hF fun K7 hK7=>vX O<|vV O (bT O Qa wL O O i rfl ag (rfl:(⟨_,0+i*1,none⟩:Addr)=_) (rfl:(none:Option Nat)=none))<|vV O (dL (u:=ak u) rfl (Hq.sub hA1.q (List.nil_subset _)) O hc i (by rw [List.length_map]; exact hlt) ag (by rw [List.getElem?_map,hu]; rfl) xe) fun a hF=>?_
  refine vR hF<|vX O<|vV O (fJ O O O O O)<|vE hK7 fun a hF=>?_
  rcases tf (bI .eql u s) with hq | hq
  ·refine au hF O hq ?_
   apply wp_skip
   refine hK6 _ _ ?_
   refine wp_region_lit ?_
   refine vR hF<|vX O<|vV O (bn O O O (PX _ ag))<|vX O fun a hF=>?_
   refine aG ?_
   exact ⟨i+1,ag,ag,yN hno hu (fun e=>Au hq e.symm),hww,hF.keep [3,0] rfl,hA1⟩
  ·refine aF hF O hq ?_
   refine wS hF fun K8 hK8=>vX O<|vE hK8 fun a hF=>?_
   apply wp_ret
   simp only [Exit.then,Exit.inBlock]
   refine aO hF Tryz.results161 O ?_
   exact ⟨by rw [List.contains_iff_mem.2 (show s∈reserved from (Aq hq) ▸ List.mem_of_getElem? hu)],hww⟩
 ·refine au hF O (dA ag) ?_
  obtain rfl:i=35:=by omega
  apply wp_exit
  refine hK2 _ _ ?_
  refine wS hF fun K9 hK9=>vX O<|vE hK9 fun a hF=>?_
  apply wp_ret
  refine aO hF Tryz.results161 O ?_
  exact ⟨by rw [show reserved.contains s=false from Bool.eq_false_iff.2 fun h=>hno (List.contains_iff_mem.1 h)],hww⟩
set_option maxRecDepth 100000 in
set_option maxHeartbeats 8000000 in
theorem Gq {w0:World} {R:List Seg} (s:List UInt8) (w:World) (hT:Jz w0) (hA:Hp w0 R w):Calls Tryz.prog 114 #[ak s] w fun e w'=>e= .returned (.bool (bP s))∧w=w':=by
 refine aQ Tryz.func114 O Tryz.ntmps114 ai (fun a hF=>?_)
 refine wS hF fun K1 hK1=>vX O<|vE hK1<|wT fun K2 hK2=>vX O fun a hF=>?_
 refine az O (fun K hK=>ay hF O ae Ff rfl rfl ?_)
 with_reducible refine (Ej s _ hA).mono ?_
 rintro e' w3 ⟨rfl,rfl⟩
 refine ⟨_,rfl,fun a hF=>hK _ _ ?_⟩
 refine vR hF<|vX O fun a hF=>?_
 refine bK (l2:=?lA1) hF [(9,.bool ((fO s) && (!(reserved.contains s)))),(0,ak s),(2,.bool false)] (fun hJ1=>?elA1) (fun a hF=>?flA1)
 case elA1 =>
  rcases tf (fO s) with hg1 | hg1
  ·refine aH hF O O O O O (aJ hg1) ae (fun a hF=>?_)
   refine aH hF O O O O O (aJ hg1) ae (fun a hF=>?_)
   refine aH hF O O O O O (aJ hg1) ae (fun a hF=>?_)
   refine vR hF<|vV O (aZ hg1 rfl rfl rfl) fun a hF=>?_
   exact hJ1 _ ((hF.keep [9,0,2] (F':=[(9,_),(0,_),(2,_)]) O).bool (by rw [hg1]; rfl))
  ·refine aK hF O O O O (aj hg1) ae _ (aV O O) (fun a hF=>?_)
   refine dY hF O O O (aj hg1) (fun K hK=>ay hF O ae Fe rfl rfl ?_)
   with_reducible refine (yx s _ hT hA).mono ?_
   rintro e' w6 ⟨rfl,rfl⟩
   refine ⟨_,rfl,fun a hF=>hK _ _ ?_⟩
   refine aK hF O O O O (aj hg1) ae _ (dK O O O) (fun a hF=>?_)
   refine vR hF<|vV O (bD hg1 rfl rfl rfl) fun a hF=>?_
   exact hJ1 _ ((hF.keep [9,0,2] (F':=[(9,_),(0,_),(2,_)]) O).bool (by rw [hg1]; rfl))
 refine vR hF<|vX O<|vE hK2 fun a hF=>?_
 apply wp_ret
 refine aO hF Tryz.results114 O ?_
 exact ⟨rfl,rfl⟩
set_option maxRecDepth 100000 in
set_option maxHeartbeats 8000000 in
theorem nD {w0:World} {R:List Seg} (n:Int) (kk:Nat) (z:Int) (w:World) (hz:z=kk) (hKK:kk≤8) (hA:Hp w0 R w):Calls Tryz.prog 108 #[.int .i64 n,.int .i64 z] w fun e w'=>∃ v Z,e= .returned v∧Buf 5 1 Z v (be kk (u64 n)).length (dc (be kk (u64 n)))∧Hp w0 (Z::R) w':=by
 refine aQ Tryz.func108 O Tryz.ntmps108 ai (fun a hF=>?_)
 refine wS hF fun K1 hK1=>vX O<|vE hK1<|wT fun K2 hK2=>vX O<|vV O (bJ O Qb Qh O (kE _))<|vX O fun a hF=>?_
 refine az O (fun K hK=>ay hF O ae Fg rfl rfl ?_)
 with_reducible refine (Ew w0 _ R (u64 n) kk _ z rfl hz hKK hA).mono ?_
 rintro e' w1 ⟨g,rfl,hA2⟩
 refine ⟨_,rfl,fun a hF=>hK _ _ ?_⟩
 replace hA2:Hp w0 ([row g 5 (dc (be kk (u64 n)))]::R) w1:=hA2
 refine vR hF<|vX O<|vE hK2 fun a hF=>?_
 apply wp_ret
 refine aO hF Tryz.results108 O ?_
 exact ⟨_,_,rfl,by rw [aY]; exact Buf.full (by rw [aI,aY,Nat.mul_one]) ag,hA2⟩
theorem Cm {n:Nat} (h:n<140737488353900):u64 (n:Int)=n:=by unfold u64; omega
set_option maxRecDepth 100000 in
set_option maxHeartbeats 8000000 in
theorem JX {w0:World} {R:List Seg} (s:List UInt8) (w:World) (hl:s.length<140737488353900) (hA:Hp w0 R w):Calls Tryz.prog 109 #[ak s] w fun e w'=>∃ v Z,e= .returned v∧Buf 5 1 Z v (nameB s).length (dc (nameB s))∧Hp w0 (Z::R) w':=by
 refine aQ Tryz.func109 O Tryz.ntmps109 ai (fun a hF=>?_)
 refine wS hF fun K1 hK1=>vX O<|vE hK1<|wT fun K2 hK2=>vX O<|vV O (eP (z:=(s.length:Nat)) O P9 O O) fun a hF=>?_
 refine az O (fun K hK=>ay hF O ae Fv rfl rfl ?_)
 with_reducible refine (nD (s.length:Int) 2 2 _ O ae hA).mono ?_
 rintro e' w1 ⟨v1,Z1,rfl,hO,hA2⟩
 refine ⟨_,rfl,fun a hF=>hK _ _ ?_⟩
 replace hA2:Hp w0 (Z1::R) w1:=hA2
 rw [Cm hl] at hO
 refine vR hF<|vX O fun a hF=>?_
 refine az O (fun K hK=>dn hF O ae rfl hA2 0 O hO PZ dS rfl rfl (Src.ofString _ P9 ⟨s.toArray⟩) (by rw [aY,show (ByteArray.mk s.toArray).size=s.length from rfl]; omega) ae (fun v2 X2 w3 a hO2 hF hA4=>hK _ _ ?_))
 replace hA4:Hp w0 (X2::R) w3:=hA4
 refine vR hF<|vX O<|vE hK2 fun a hF=>?_
 apply wp_ret
 refine aO hF Tryz.results109 O ?_
 replace hO2:Buf 5 1 X2 v2 ((be 2 s.length).length+s.length) (dc (be 2 s.length)++dc s):=hO2
 exact ⟨v2,X2,rfl,by unfold nameB; rw [List.length_append,bV]; exact hO2,hA4⟩
end Go.Proofs.YtepbmdlgdaedpaaGreatDoor
