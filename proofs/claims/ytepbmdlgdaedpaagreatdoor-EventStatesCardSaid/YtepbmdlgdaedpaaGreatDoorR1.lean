/- The document's own: numbers and names as bytes, legal names, what is right. -/
import Derived.Test.YtepbmdlgdaedpaaGreatDoorEv9
import Derived.Test.YtepbmdlgdaedpaaGreatDoorSt1
import Derived.Test.YtepbmdlgdaedpaaGreatDoorRf
/- The document's own: numbers and names as bytes, legal names, what is right. -/
namespace Go.Proofs.YtepbmdlgdaedpaaGreatDoor
open Go.RowKit Go.Dk
theorem FQ:aP Tryz.prog 108:=⟨_,Tryz.func108,af,af⟩
theorem FD:aP Tryz.prog 157:=⟨_,Tryz.func157,af,af⟩
theorem FC:aP Tryz.prog 160:=⟨_,Tryz.func160,af,af⟩
theorem FB:aP Tryz.prog 161:=⟨_,Tryz.func161,af,af⟩
theorem wV:aP Tryz.prog 194:=⟨_,Tryz.func194,af,af⟩
theorem Fv:aP Tryz.prog 195:=⟨_,Tryz.func195,af,af⟩
theorem Fq:aP Tryz.prog 207:=⟨_,Tryz.func207,af,af⟩
set_option maxRecDepth 100000 in
set_option maxHeartbeats 8000000 in
theorem vZ (c:UInt8) (w:World):Calls Tryz.prog 194 #[.int .u8 (c.toNat:Int)] w fun e w'=>e= .returned (.bool (kD c))∧w=w':=by
 refine aQ Tryz.func194 O Tryz.ntmps194 ai (fun a hF=>?_)
 refine wS hF fun K1 hK1=>vX O<|vE hK1<|wT fun K2 hK2=>vX O<|vV O (aJ O O O O O)<|vX O fun a hF=>?_
 refine bF (l2:=?lA1) hF [(8,.bool ((aF .geq ((c.toNat:Int)) (97)) && (aF .leq ((c.toNat:Int)) (122)))),(0,.int .u8 (c.toNat:Int)),(2,.bool false)] (fun hJ1=>?elA1) (fun a hF=>?flA1)
 case elA1 =>
  rcases tf (aF .geq ((c.toNat:Int)) (97)) with hg1 | hg1
  ·refine az hF O O O O O (aB hg1) ae (fun a hF=>?_)
   refine az hF O O O O O (aB hg1) ae (fun a hF=>?_)
   refine vR hF<|vV O (aV hg1 rfl rfl rfl) fun a hF=>?_
   exact hJ1 _ ((hF.keep [8,0,2] (F':=[(8,_),(0,_),(2,_)]) O).bool (by rw [hg1]; rfl))
  ·refine aI hF O O O O (aj hg1) ae _ (aY O O) (fun a hF=>?_)
   refine aI hF O O O O (aj hg1) ae _ (aJ O O O O O) (fun a hF=>?_)
   refine vR hF<|vV O (bg hg1 rfl rfl rfl) fun a hF=>?_
   exact hJ1 _ ((hF.keep [8,0,2] (F':=[(8,_),(0,_),(2,_)]) O).bool (by rw [hg1]; rfl))
 refine vR hF<|vX O<|vE hK2 fun a hF=>?_
 apply wp_ret
 refine aO hF Tryz.results194 O ?_
 exact ⟨by rw [Dv],rfl⟩
set_option maxRecDepth 100000 in
set_option maxHeartbeats 8000000 in
theorem G9 (c:UInt8) (w:World):Calls Tryz.prog 207 #[.int .u8 (c.toNat:Int)] w fun e w'=>e= .returned (.bool (qm c))∧w=w':=by
 refine aQ Tryz.func207 O Tryz.ntmps207 ai (fun a hF=>?_)
 refine wS hF fun K1 hK1=>vX O<|vE hK1<|wT fun K2 hK2=>vX O<|vV O (aJ O O O O O)<|vX O fun a hF=>?_
 refine bF (l2:=?lA1) hF [(8,.bool ((aF .geq ((c.toNat:Int)) (48)) && (aF .leq ((c.toNat:Int)) (57)))),(0,.int .u8 (c.toNat:Int)),(2,.bool false)] (fun hJ1=>?elA1) (fun a hF=>?flA1)
 case elA1 =>
  rcases tf (aF .geq ((c.toNat:Int)) (48)) with hg1 | hg1
  ·refine az hF O O O O O (aB hg1) ae (fun a hF=>?_)
   refine az hF O O O O O (aB hg1) ae (fun a hF=>?_)
   refine vR hF<|vV O (aV hg1 rfl rfl rfl) fun a hF=>?_
   exact hJ1 _ ((hF.keep [8,0,2] (F':=[(8,_),(0,_),(2,_)]) O).bool (by rw [hg1]; rfl))
  ·refine aI hF O O O O (aj hg1) ae _ (aY O O) (fun a hF=>?_)
   refine aI hF O O O O (aj hg1) ae _ (aJ O O O O O) (fun a hF=>?_)
   refine vR hF<|vV O (bg hg1 rfl rfl rfl) fun a hF=>?_
   exact hJ1 _ ((hF.keep [8,0,2] (F':=[(8,_),(0,_),(2,_)]) O).bool (by rw [hg1]; rfl))
 refine vR hF<|vX O<|vE hK2 fun a hF=>?_
 apply wp_ret
 refine aO hF Tryz.results207 O ?_
 exact ⟨by rw [DK],rfl⟩
set_option maxRecDepth 100000 in
set_option maxHeartbeats 8000000 in
theorem Kv (c:UInt8) (w:World):Calls Tryz.prog 195 #[.int .u8 (c.toNat:Int)] w fun e w'=>e= .returned (.bool (ni c))∧w=w':=by
 refine aQ Tryz.func195 O Tryz.ntmps195 ai (fun a hF=>?_)
 refine wS hF fun K1 hK1=>vX O<|vE hK1<|wT fun K2 hK2=>vX O fun a hF=>?_
 refine ax O (fun K hK=>ay hF O ae wV rfl rfl ?_)
 with_reducible refine (vZ c _).mono ?_
 rintro e' w3 ⟨rfl,rfl⟩
 refine ⟨_,rfl,fun a hF=>hK _ _ ?_⟩
 refine vR hF<|vX O fun a hF=>?_
 refine bF (l2:=?lA1) hF [(8,.bool ((kD c) || (qm c))),(0,.int .u8 (c.toNat:Int)),(2,.bool false)] (fun hJ1=>?elA1) (fun a hF=>?flA1)
 case elA1 =>
  rcases tf (kD c) with hg1 | hg1
  ·refine aI hF O O O O (aj hg1) ae _ (aY O O) (fun a hF=>?_)
   refine dG hF O O O (aj hg1) (fun K hK=>ay hF O ae Fq rfl rfl ?_)
   with_reducible refine (G9 c _).mono ?_
   rintro e' w6 ⟨rfl,rfl⟩
   refine ⟨_,rfl,fun a hF=>hK _ _ ?_⟩
   refine vR hF<|vV O (aV hg1 rfl rfl rfl) fun a hF=>?_
   exact hJ1 _ ((hF.keep [8,0,2] (F':=[(8,_),(0,_),(2,_)]) O).bool (by rw [hg1]; rfl))
  ·refine az hF O O O O O (aB hg1) ae (fun a hF=>?_)
   refine az hF O O O O O (aB hg1) ae (fun a hF=>?_)
   refine vR hF<|vV O (bg hg1 rfl rfl rfl) fun a hF=>?_
   exact hJ1 _ ((hF.keep [8,0,2] (F':=[(8,_),(0,_),(2,_)]) O).bool (by rw [hg1]; rfl))
 refine vR hF<|vX O fun a hF=>?_
 refine bF (l2:=?lA2) hF [(12,.bool (((kD c) || (qm c)) || (aF .eql ((c.toNat:Int)) (95)))),(0,.int .u8 (c.toNat:Int)),(2,.bool false)] (fun hJ2=>?elA2) (fun a hF=>?flA2)
 case elA2 =>
  rcases tf ((kD c) || (qm c)) with hg2 | hg2
  ·refine aI hF O O O O (aj hg2) ae _ (aY O O) (fun a hF=>?_)
   refine aI hF O O O O (aj hg2) ae _ (aJ O O O O O) (fun a hF=>?_)
   refine vR hF<|vV O (aV hg2 rfl rfl rfl) fun a hF=>?_
   exact hJ2 _ ((hF.keep [12,0,2] (F':=[(12,_),(0,_),(2,_)]) O).bool (by rw [hg2]; rfl))
  ·refine az hF O O O O O (aB hg2) ae (fun a hF=>?_)
   refine az hF O O O O O (aB hg2) ae (fun a hF=>?_)
   refine vR hF<|vV O (bg hg2 rfl rfl rfl) fun a hF=>?_
   exact hJ2 _ ((hF.keep [12,0,2] (F':=[(12,_),(0,_),(2,_)]) O).bool (by rw [hg2]; rfl))
 refine vR hF<|vX O<|vE hK2 fun a hF=>?_
 apply wp_ret
 refine aO hF Tryz.results195 O ?_
 exact ⟨by rw [yF],rfl⟩
set_option maxRecDepth 100000 in
set_option maxHeartbeats 8000000 in
theorem Et {w0:World} {R:List Seg} (s:List UInt8) (w:World) (hA:Hp w0 R w):Calls Tryz.prog 160 #[ak s] w fun e w'=>e= .returned (.bool (gI s))∧w=w':=by
 refine aQ Tryz.func160 O Tryz.ntmps160 ai (fun a hF=>?_)
 refine wS hF fun K1 hK1=>vX O<|vE hK1<|wQ fun K2 hK2=>wT fun K3 hK3=>vX O<|vV O (eH (z:=(s.length:Nat)) O QB O O)<|vV O (aJ O O O O O)<|vX O fun a hF=>?_
 refine bF (l2:=?lA1) hF [(11,.bool ((aF .eql ((s.length:Nat)) (0)) || (aF .gtr ((s.length:Nat)) (64)))),(0,ak s),(2,.bool false)] (fun hJ1=>?elA1) (fun a hF=>?flA1)
 case elA1 =>
  rcases tf (aF .eql ((s.length:Nat)) (0)) with hg1 | hg1
  ·refine aI hF O O O O (aj hg1) ae _ (aY O O) (fun a hF=>?_)
   refine aI hF O O O O (aj hg1) ae _ (eH (z:=(s.length:Nat)) O QB O O) (fun a hF=>?_)
   refine aI hF O O O O (aj hg1) ae _ (aJ O O O O O) (fun a hF=>?_)
   refine vR hF<|vV O (aV hg1 rfl rfl rfl) fun a hF=>?_
   exact hJ1 _ ((hF.keep [11,0,2] (F':=[(11,_),(0,_),(2,_)]) O).bool (by rw [hg1]; rfl))
  ·refine az hF O O O O O (aB hg1) ae (fun a hF=>?_)
   refine az hF O O O O O (aB hg1) ae (fun a hF=>?_)
   refine az hF O O O O O (aB hg1) ae (fun a hF=>?_)
   refine vR hF<|vV O (bg hg1 rfl rfl rfl) fun a hF=>?_
   exact hJ1 _ ((hF.keep [11,0,2] (F':=[(11,_),(0,_),(2,_)]) O).bool (by rw [hg1]; rfl))
 refine vR hF<|vX O fun a hF=>?_
 refine bF (l2:=?lA2) hF [(17,.bool (((aF .eql ((s.length:Nat)) (0)) || (aF .gtr ((s.length:Nat)) (64))) || (!(kD (bAt s 0))))),(0,ak s),(2,.bool false)] (fun hJ2=>?elA2) (fun a hF=>?flA2)
 case elA2 =>
  rcases tf ((aF .eql ((s.length:Nat)) (0)) || (aF .gtr ((s.length:Nat)) (64))) with hg2 | hg2
  ·refine aI hF O O O O (aj hg2) ae _ (aY O O) (fun a hF=>?_)
   refine aI hF O O O O (aj hg2) ae _ (ng O QB O O 0 O (zO hg2)) (fun a hF=>?_)
   refine dG hF O O O (aj hg2) (fun K hK=>ay hF O ae wV rfl rfl ?_)
   with_reducible refine (vZ (bAt s 0) _).mono ?_
   rintro e' w3 ⟨rfl,rfl⟩
   refine ⟨_,rfl,fun a hF=>hK _ _ ?_⟩
   refine aI hF O O O O (aj hg2) ae _ (dI O O O) (fun a hF=>?_)
   refine vR hF<|vV O (aV hg2 rfl rfl rfl) fun a hF=>?_
   exact hJ2 _ ((hF.keep [17,0,2] (F':=[(17,_),(0,_),(2,_)]) O).bool (by rw [hg2]; rfl))
  ·refine az hF O O O O O (aB hg2) ae (fun a hF=>?_)
   refine az hF O O O O O (aB hg2) ae (fun a hF=>?_)
   refine az hF O O O O O (aB hg2) ae (fun a hF=>?_)
   refine az hF O O O O O (aB hg2) ae (fun a hF=>?_)
   refine vR hF<|vV O (bg hg2 rfl rfl rfl) fun a hF=>?_
   exact hJ2 _ ((hF.keep [17,0,2] (F':=[(17,_),(0,_),(2,_)]) O).bool (by rw [hg2]; rfl))
 refine aK<|hK3 _ _ ?_
 rcases tf (((aF .eql ((s.length:Nat)) (0)) || (aF .gtr ((s.length:Nat)) (64))) || (!(kD (bAt s 0)))) with hs | hs
 ·refine au hF O hs ?_
  obtain ⟨hl1,hl2,hl3⟩:=rf hs
  apply wp_skip
  refine hK2 _ _ ?_
  apply wp_seq_k; intro K4 hK4
  refine wS hF fun K5 hK5=>vX O<|vE hK5<|wBk fun a hF=>?_
  refine bG (G:=Nat) (fun i a x=>i≤s.length∧(s.take i).all ni=true∧w=x∧Fr 29 [(3,.int .i64 (i:Int)),(0,ak s)] a∧Hp w0 (R) x) (fun i=>s.length-i) 0 (⟨Qs _,rfl,rfl,hF.keep [3,0] rfl,hA⟩) ?_
  clear hF
  rintro i a w5 ⟨hi,hall,hww,hF,hA4⟩
  apply wp_seq_k; intro K6 hK6
  refine wS hF fun K7 hK7=>vX O<|vX O<|vV O (eH (z:=(s.length:Nat)) O QB O O)<|vV O (aJ O O O O O)<|vE hK7 fun a hF=>?_
  by_cases hlt:i<s.length
  ·refine aG hF O (dA ag) ?_
   have hat:=qV (l:=s) hlt
   apply wp_skip
   refine hK6 _ _ ?_
   apply wp_seq_k; intro K8 hK8
   apply wp_block
   refine wS hF fun K9 hK9=>vX O<|vX O<|vV O (ng O QB O O i rfl hat) fun a hF=>?_
   refine ax O (fun K hK=>ay hF O ae Fv rfl rfl ?_)
   with_reducible refine (Kv (bAt s i) _).mono ?_
   rintro e' w8 ⟨rfl,rfl⟩
   refine ⟨_,rfl,fun a hF=>hK _ _ ?_⟩
   refine vR hF<|vV O (dI O O O)<|vE hK9 fun a hF=>?_
   rcases tf (ni (bAt s i)) with hw | hw
   ·refine aG hF O (by rw [hw]; rfl) ?_
    refine wS hF fun K10 hK10=>vX O<|vE hK10 fun a hF=>?_
    apply wp_ret
    simp only [Exit.then,Exit.inBlock]
    refine aO hF Tryz.results160 O ?_
    exact ⟨by rw [tH hlt hw],hww⟩
   ·refine au hF O (by rw [hw]; rfl) ?_
    apply wp_skip
    refine hK8 _ _ ?_
    refine wp_region_lit ?_
    refine vR hF<|vX O<|vV O (bH O O O (Qu _ ag))<|vX O fun a hF=>?_
    refine aK ?_
    exact ⟨i+1,ag,ag,uS hat hall hw,hww,hF.keep [3,0] rfl,hA4⟩
  ·refine au hF O (dm ag) ?_
   obtain rfl:i=s.length:=by omega
   apply wp_exit
   refine hK4 _ _ ?_
   refine wS hF fun K11 hK11=>vX O<|vE hK11 fun a hF=>?_
   apply wp_ret
   refine aO hF Tryz.results160 O ?_
   exact ⟨by rw [rq ⟨hl1,hl2,hl3⟩ hall],hww⟩
 ·refine aG hF O hs ?_
  refine wS hF fun K12 hK12=>vX O<|vE hK12 fun a hF=>?_
  apply wp_ret
  simp only [Exit.then]
  refine aO hF Tryz.results160 O ?_
  exact ⟨by rw [qZ hs],rfl⟩
def JU (w0:World):Prop:=Rc w0 [] (some ⟨0,0,none⟩) (reserved.map ak)
set_option maxRecDepth 100000 in
set_option maxHeartbeats 8000000 in
theorem yU {w0:World} {R:List Seg} (s:List UInt8) (w:World) (hT:JU w0) (hA:Hp w0 R w):Calls Tryz.prog 161 #[ak s] w fun e w'=>e= .returned (.bool (reserved.contains s))∧w=w':=by
 obtain ⟨_,_,hb,hc⟩:=hT.ne (i:=0) ae
 injection hb with hb
 injection hb with hb1 hb2
 subst hb1 hb2
 refine aQ Tryz.func161 O Tryz.ntmps161 ai (fun a hF=>?_)
 refine wS hF fun K1 hK1=>vX O<|vE hK1<|wQ fun K2 hK2=>wT fun K3 hK3=>vX O<|vE hK3<|wBk fun a hF=>?_
 refine bG (G:=Nat) (fun i a x=>i≤35∧¬ s∈reserved.take i∧w=x∧Fr 13 [(3,.int .i64 (i:Int)),(0,ak s)] a∧Hp w0 (R) x) (fun i=>35-i) 0 (⟨ae,(by simp),rfl,hF.keep [3,0] rfl,hA⟩) ?_
 clear hF
 rintro i a w2 ⟨hi,hno,hww,hF,hA1⟩
 apply wp_seq_k; intro K4 hK4
 refine wS hF fun K5 hK5=>vX O<|vV O (aJ O O O O O)<|vE hK5 fun a hF=>?_
 by_cases hlt:i<35
 ·refine aG hF O (dA ag) ?_
  obtain ⟨u,hu⟩:∃ u,reserved[i]? = some u:=⟨_,List.getElem?_eq_getElem (show i<reserved.length from hlt)⟩
  apply wp_skip
  refine hK4 _ _ ?_
  apply wp_seq_k; intro K6 hK6
  apply wp_block
  refine wS hF fun K7 hK7=>vX O<|vV O (bY O QC xq O O i rfl ag (rfl:(⟨_,0+i*1,none⟩:Addr)=_) (rfl:(none:Option Nat)=none))<|vV O (dN (u:=ak u) rfl (Hq.sub hA1.q (List.nil_subset _)) O hc i (by rw [List.length_map]; exact hlt) ag (by rw [List.getElem?_map,hu]; rfl) xM) fun a hF=>?_
  refine vR hF<|vX O<|vV O (eF O O O O O)<|vE hK7 fun a hF=>?_
  rcases tf (bI .eql u s) with hq | hq
  ·refine au hF O hq ?_
   apply wp_skip
   refine hK6 _ _ ?_
   refine wp_region_lit ?_
   refine vR hF<|vX O<|vV O (bH O O O (Qu _ ag))<|vX O fun a hF=>?_
   refine aK ?_
   exact ⟨i+1,ag,ag,nM hno hu (fun e=>tC hq e.symm),hww,hF.keep [3,0] rfl,hA1⟩
  ·refine aG hF O hq ?_
   refine wS hF fun K8 hK8=>vX O<|vE hK8 fun a hF=>?_
   apply wp_ret
   simp only [Exit.then,Exit.inBlock]
   refine aO hF Tryz.results161 O ?_
   exact ⟨by rw [List.contains_iff_mem.2 (show s∈reserved from (tq hq) ▸ List.mem_of_getElem? hu)],hww⟩
 ·refine au hF O (dm ag) ?_
  obtain rfl:i=35:=by omega
  apply wp_exit
  refine hK2 _ _ ?_
  refine wS hF fun K9 hK9=>vX O<|vE hK9 fun a hF=>?_
  apply wp_ret
  refine aO hF Tryz.results161 O ?_
  exact ⟨by rw [show reserved.contains s=false from Bool.eq_false_iff.2 fun h=>hno (List.contains_iff_mem.1 h)],hww⟩
set_option maxRecDepth 100000 in
set_option maxHeartbeats 8000000 in
theorem G8 {w0:World} {R:List Seg} (s:List UInt8) (w:World) (hT:JU w0) (hA:Hp w0 R w):Calls Tryz.prog 114 #[ak s] w fun e w'=>e= .returned (.bool (bZ s))∧w=w':=by
 refine aQ Tryz.func114 O Tryz.ntmps114 ai (fun a hF=>?_)
 refine wS hF fun K1 hK1=>vX O<|vE hK1<|wT fun K2 hK2=>vX O fun a hF=>?_
 refine ax O (fun K hK=>ay hF O ae FC rfl rfl ?_)
 with_reducible refine (Et s _ hA).mono ?_
 rintro e' w3 ⟨rfl,rfl⟩
 refine ⟨_,rfl,fun a hF=>hK _ _ ?_⟩
 refine vR hF<|vX O fun a hF=>?_
 refine bF (l2:=?lA1) hF [(9,.bool ((gI s) && (!(reserved.contains s)))),(0,ak s),(2,.bool false)] (fun hJ1=>?elA1) (fun a hF=>?flA1)
 case elA1 =>
  rcases tf (gI s) with hg1 | hg1
  ·refine az hF O O O O O (aB hg1) ae (fun a hF=>?_)
   refine az hF O O O O O (aB hg1) ae (fun a hF=>?_)
   refine az hF O O O O O (aB hg1) ae (fun a hF=>?_)
   refine vR hF<|vV O (aV hg1 rfl rfl rfl) fun a hF=>?_
   exact hJ1 _ ((hF.keep [9,0,2] (F':=[(9,_),(0,_),(2,_)]) O).bool (by rw [hg1]; rfl))
  ·refine aI hF O O O O (aj hg1) ae _ (aY O O) (fun a hF=>?_)
   refine dG hF O O O (aj hg1) (fun K hK=>ay hF O ae FB rfl rfl ?_)
   with_reducible refine (yU s _ hT hA).mono ?_
   rintro e' w6 ⟨rfl,rfl⟩
   refine ⟨_,rfl,fun a hF=>hK _ _ ?_⟩
   refine aI hF O O O O (aj hg1) ae _ (dI O O O) (fun a hF=>?_)
   refine vR hF<|vV O (bg hg1 rfl rfl rfl) fun a hF=>?_
   exact hJ1 _ ((hF.keep [9,0,2] (F':=[(9,_),(0,_),(2,_)]) O).bool (by rw [hg1]; rfl))
 refine vR hF<|vX O<|vE hK2 fun a hF=>?_
 apply wp_ret
 refine aO hF Tryz.results114 O ?_
 exact ⟨rfl,rfl⟩
set_option maxRecDepth 100000 in
set_option maxHeartbeats 8000000 in
theorem jm {w0:World} {R:List Seg} (n:Int) (kk:Nat) (z:Int) (w:World) (hz:z=kk) (hKK:kk≤8) (hA:Hp w0 R w):Calls Tryz.prog 108 #[.int .i64 n,.int .i64 z] w fun e w'=>∃ v Z,e= .returned v∧Buf 5 1 Z v (be kk (u64 n)).length (dc (be kk (u64 n)))∧Hp w0 (Z::R) w':=by
 refine aQ Tryz.func108 O Tryz.ntmps108 ai (fun a hF=>?_)
 refine wS hF fun K1 hK1=>vX O<|vE hK1<|wT fun K2 hK2=>vX O<|vV O (bQ O QD QK O (lH _))<|vX O fun a hF=>?_
 refine ax O (fun K hK=>ay hF O ae FD rfl rfl ?_)
 with_reducible refine (EF w0 _ R (u64 n) kk _ z rfl hz hKK hA).mono ?_
 rintro e' w1 ⟨g,rfl,hA2⟩
 refine ⟨_,rfl,fun a hF=>hK _ _ ?_⟩
 replace hA2:Hp w0 ([row g 5 (dc (be kk (u64 n)))]::R) w1:=hA2
 refine vR hF<|vX O<|vE hK2 fun a hF=>?_
 apply wp_ret
 refine aO hF Tryz.results108 O ?_
 exact ⟨_,_,rfl,by rw [aW]; exact Buf.full (by rw [aN,aW,Nat.mul_one]) ag,hA2⟩
theorem o9 {n:Nat} (h:n<140737488353900):u64 (n:Int)=n:=by unfold u64; omega
set_option maxRecDepth 100000 in
set_option maxHeartbeats 8000000 in
theorem xy {w0:World} {R:List Seg} (s:List UInt8) (w:World) (hl:s.length<140737488353900) (hA:Hp w0 R w):Calls Tryz.prog 109 #[ak s] w fun e w'=>∃ v Z,e= .returned v∧Buf 5 1 Z v (nameB s).length (dc (nameB s))∧Hp w0 (Z::R) w':=by
 refine aQ Tryz.func109 O Tryz.ntmps109 ai (fun a hF=>?_)
 refine wS hF fun K1 hK1=>vX O<|vE hK1<|wT fun K2 hK2=>vX O<|vV O (eH (z:=(s.length:Nat)) O QB O O) fun a hF=>?_
 refine ax O (fun K hK=>ay hF O ae FQ rfl rfl ?_)
 with_reducible refine (jm (s.length:Int) 2 2 _ O ae hA).mono ?_
 rintro e' w1 ⟨v1,Z1,rfl,hO,hA2⟩
 refine ⟨_,rfl,fun a hF=>hK _ _ ?_⟩
 replace hA2:Hp w0 (Z1::R) w1:=hA2
 rw [o9 hl] at hO
 refine vR hF<|vX O fun a hF=>?_
 refine ax O (fun K hK=>bM hF O ae rfl hA2 0 O hO Qv cZ rfl rfl (Src.ofString _ QB ⟨s.toArray⟩) (by rw [aW,show (ByteArray.mk s.toArray).size=s.length from rfl]; omega) ae (fun v2 X2 w3 a hO2 hF hA4=>hK _ _ ?_))
 replace hA4:Hp w0 (X2::R) w3:=hA4
 refine vR hF<|vX O<|vE hK2 fun a hF=>?_
 apply wp_ret
 refine aO hF Tryz.results109 O ?_
 replace hO2:Buf 5 1 X2 v2 ((be 2 s.length).length+s.length) (dc (be 2 s.length)++dc s):=hO2
 exact ⟨v2,X2,rfl,by unfold nameB; rw [List.length_append,bK]; exact hO2,hA4⟩
theorem Du (a b:List UInt8):bI .lss a b = !bI .geq a b:=by
 unfold bI
 cases h:Op.bytesLess a b <;> simp
theorem Kw {va:VA} (h:((aF .lss (va.v.k) (0)) || (aF .gtr (va.v.k) (5)))=true):va.v.right=8:=by
 have hf:va.v.formed=false:=by
  simp only [aF,Bool.or_eq_true,decide_eq_true_eq] at h
  unfold Val.formed
  split
  ·rfl
  rw [if_neg ag,if_neg ag,if_neg ag,if_neg ag]
 exact if_pos hf
theorem Kz {va:VA} (h:((((aF .neq (va.v.n) (0)) && (((aF .eql (va.v.k) (0)) || (aF .eql (va.v.k) (3))) || (aF .eql (va.v.k) (5)))) || ((bI .neq va.v.t []) && (aF .neq (va.v.k) (3)))) || ((aF .gtr (va.v.s.length) (0)) && (aF .neq (va.v.k) (5))))=true):va.v.right=8:=by
 have hf:va.v.formed=false:=by
  simp only [aF,bI,Bool.or_eq_true,Bool.and_eq_true,decide_eq_true_eq,Bool.not_eq_true',beq_eq_false_iff_ne,beq_iff_eq,bne_iff_ne,ne_eq] at h
  unfold Val.formed
  by_cases h0:(va.v.k≠3∧va.v.t≠[])∨(va.v.k≠5∧va.v.s≠[])
  ·rw [if_pos h0]
  rw [if_neg h0]
  have h1:va.v.n≠0∧(va.v.k=0∨va.v.k=3∨va.v.k=5):=by
   rcases h with (h | h) | h
   ·exact ⟨h.1,ag⟩
   ·exact absurd (.inl ⟨h.2,h.1⟩) h0
   ·exact absurd (.inr ⟨h.2,fun e=>by rw [e] at h; simp at h⟩) h0
  obtain ⟨h1,h2⟩:=h1
  rw [if_neg ag,if_neg ag]
  split
  ·simp [h1]
  ·rw [if_pos ag]; simp [h1]
 exact if_pos hf
theorem KA {va:VA} (h:(((aF .eql (va.v.k) (2)) && (aF .neq (va.v.n) (0))) && (aF .neq (va.v.n) (1)))=true):va.v.right=8:=by
 have hf:va.v.formed=false:=by
  simp only [aF,Bool.and_eq_true,beq_iff_eq,bne_iff_ne,ne_eq] at h
  unfold Val.formed
  split
  ·rfl
  rw [if_neg ag,if_pos ag]
  simp; omega
 exact if_pos hf
theorem Ky {va:VA} (h1:((aF .lss (va.v.k) (0)) || (aF .gtr (va.v.k) (5)))=false) (h2:((((aF .neq (va.v.n) (0)) && (((aF .eql (va.v.k) (0)) || (aF .eql (va.v.k) (3))) || (aF .eql (va.v.k) (5)))) || ((bI .neq va.v.t []) && (aF .neq (va.v.k) (3)))) || ((aF .gtr (va.v.s.length) (0)) && (aF .neq (va.v.k) (5))))=false) (h3:(((aF .eql (va.v.k) (2)) && (aF .neq (va.v.n) (0))) && (aF .neq (va.v.n) (1)))=false):(0≤va.v.k∧va.v.k≤5)∧((va.v.k=3∨va.v.t=[])∧(va.v.k=5∨va.v.s=[]))∧((va.v.n=0∨va.v.k=1∨va.v.k=2∨va.v.k=4)∧(va.v.k=2→va.v.n=0∨va.v.n=1)):=by
 simp only [aF,bI,Bool.or_eq_false_iff,Bool.and_eq_false_iff,decide_eq_false_iff_not,Bool.not_eq_false',beq_iff_eq,beq_eq_false_iff_ne,bne_eq_false_iff_eq,ne_eq] at h1 h2 h3
 obtain ⟨⟨q1,q2⟩,q3⟩:=h2
 refine ⟨ ag,⟨?_,?_⟩,ag,fun e=>by omega⟩
 ·rcases q2 with q | q
  ·exact .inr q
  ·exact .inl ag
 ·rcases q3 with q | q
  ·right
   cases hs:va.v.s with
   | nil=>rfl
   | cons x l=>rw [hs] at q; simp at q
  ·exact .inl ag
theorem NT {va:VA} (hk:0≤va.v.k∧va.v.k≤5) (hb:(va.v.k=3∨va.v.t=[])∧(va.v.k=5∨va.v.s=[])) (hr:ed va.v.s va.v.s.length=false):va.v.right=8:=by
 have hf:va.v.formed=false:=by
  unfold Val.formed
  split
  ·rfl
  have h5:va.v.k=5:=hb.2.resolve_right fun e=>by rw [e] at hr; exact absurd hr ae
  rw [if_neg ag,if_neg ag,if_neg ag,if_pos h5,hr]
  rfl
 exact if_pos hf
theorem Ew {va:VA} (hk:0≤va.v.k∧va.v.k≤5) (hb:(va.v.k=3∨va.v.t=[])∧(va.v.k=5∨va.v.s=[])) (hc:(va.v.n=0∨va.v.k=1∨va.v.k=2∨va.v.k=4)∧(va.v.k=2→va.v.n=0∨va.v.n=1)) (hr:ed va.v.s va.v.s.length=true):va.v.formed=true:=by
 unfold Val.formed
 rw [if_neg (by
  rintro (⟨h1,h2⟩ | ⟨h1,h2⟩)
  ·rcases hb.1 with h | h
   ·exact h1 h
   ·exact h2 h
  ·rcases hb.2 with h | h
   ·exact h1 h
   ·exact h2 h)]
 split
 ·rfl
 split
 ·rename_i h; exact decide_eq_true (hc.2 h)
 split
 ·exact decide_eq_true ag
 split
 ·rw [hr,decide_eq_true (show va.v.n=0 by omega)]; rfl
 ·omega
theorem ug {va:VA} (h:va.v.formed=true):¬ va.v.formed=false:=by rw [h]; decide
theorem NW {va:VA} (hf:va.v.formed=true) (h:((aF .eql (va.v.k) (4)) && ((aF .lss (va.v.n) (0)) || (aF .gtr (va.v.n) (4611686018427387904))))=true):va.v.right=111:=by
 simp only [aF,Bool.or_eq_true,Bool.and_eq_true,decide_eq_true_eq,beq_iff_eq] at h
 exact (if_neg (ug hf)).trans (if_pos ⟨h.1,ag⟩)
theorem C9 {va:VA} (h:((aF .eql (va.v.k) (4)) && ((aF .lss (va.v.n) (0)) || (aF .gtr (va.v.n) (4611686018427387904))))=false):¬ (va.v.k=4∧¬ (0≤va.v.n∧va.v.n≤4611686018427387904)):=by
 simp only [aF,Bool.or_eq_false_iff,Bool.and_eq_false_iff,decide_eq_false_iff_not,beq_eq_false_iff_ne,ne_eq] at h
 omega
theorem NV {va:VA} (hf:va.v.formed=true) (h4:((aF .eql (va.v.k) (4)) && ((aF .lss (va.v.n) (0)) || (aF .gtr (va.v.n) (4611686018427387904))))=false) (h:(aF .gtr ((va.v.t.length:Nat)) (1024))=true):va.v.right=113:=by
 simp only [aF,decide_eq_true_eq] at h
 exact (if_neg (ug hf)).trans ((if_neg (C9 h4)).trans (if_pos (.inl ag)))
theorem KC {va:VA} {q:List UInt8} {i:Nat} (hf:va.v.formed=true) (h4:((aF .eql (va.v.k) (4)) && ((aF .lss (va.v.n) (0)) || (aF .gtr (va.v.n) (4611686018427387904))))=false) (_h5:(aF .gtr ((va.v.t.length:Nat)) (1024))=false) (hp:va.v.s[i]? = some q) (hw:fM q=true):va.v.right=113 :=
 (if_neg (ug hf)).trans ((if_neg (C9 h4)).trans (if_pos (.inr (List.any_eq_true.2 ⟨q,List.mem_of_getElem? hp,hw⟩))))
theorem Np {va:VA} (h5:(aF .gtr ((va.v.t.length:Nat)) (1024))=false) (hall:va.v.s.any fM=false):¬ (1024<va.v.t.length∨va.v.s.any fM=true):=by
 simp only [aF,decide_eq_false_iff_not] at h5
 rw [hall]
 rintro (h | h)
 ·omega
 ·exact absurd h ae
theorem NU {va:VA} (hf:va.v.formed=true) (h4:((aF .eql (va.v.k) (4)) && ((aF .lss (va.v.n) (0)) || (aF .gtr (va.v.n) (4611686018427387904))))=false) (h5:(aF .gtr ((va.v.t.length:Nat)) (1024))=false) (hall:va.v.s.any fM=false) (h6:(aF .gtr (va.v.s.length) (64))=true):va.v.right=114:=by
 simp only [aF,decide_eq_true_eq] at h6
 exact (if_neg (ug hf)).trans ((if_neg (C9 h4)).trans ((if_neg (Np h5 hall)).trans (if_pos ag)))
theorem P7 {va:VA} (hf:va.v.formed=true) (h4:((aF .eql (va.v.k) (4)) && ((aF .lss (va.v.n) (0)) || (aF .gtr (va.v.n) (4611686018427387904))))=false) (h5:(aF .gtr ((va.v.t.length:Nat)) (1024))=false) (hall:va.v.s.any fM=false) (h6:(aF .gtr (va.v.s.length) (64))=false):va.v.right=0:=by
 simp only [aF,decide_eq_false_iff_not] at h6
 exact (if_neg (ug hf)).trans ((if_neg (C9 h4)).trans ((if_neg (Np h5 hall)).trans (if_neg ag)))
theorem OA {q:List UInt8} (h:fM q=true):aF .gtr (q.length:Nat) 1024=true:=by
 unfold fM at h
 have:=of_decide_eq_true h
 exact iy ag
theorem OB {q:List UInt8} (h:fM q=false):aF .gtr (q.length:Nat) 1024=false:=by
 unfold fM at h
 have:=of_decide_eq_false h
 exact iM ag
set_option maxRecDepth 100000 in
set_option maxHeartbeats 8000000 in
theorem G7 {w0:World} {R:List Seg} {G:List Seg} (va:VA) (w:World) (hV:va.Ok w0 G) (hG:G⊆R) (hA:Hp w0 R w):Calls Tryz.prog 107 #[.agg va.cells.toArray] w fun e w'=>e= .returned (.int .i64 (va.v.right:Nat))∧Hp w0 R w':=by
 have hn:=hV.n
 refine aQ Tryz.func107 O Tryz.ntmps107 ai (fun a hF=>?_)
 refine wp_seq_k fun K1 hK1=>wp_region_lit ?_
 refine ax O (fun K hK=>dL (cs:=[.int .i64 va.v.k,.int .i64 va.v.n,ak va.v.t,.slice va.sA va.v.s.length va.sC]) hF O ae rfl hA O (fun b1 w2 a hb1 hF hA3=>hK _ _ ?_))
 refine vR hF<|vX O<|vE hK1<|wQ fun K2 hK2=>wT fun K3 hK3=>vV O (yf 0 O QE O jU O)<|vV O (aX O hA3.q O 0 O O jV)<|vV O (aJ O O O O O)<|vX O fun a hF=>?_
 refine bF (l2:=?lA1) hF [(12,.bool ((aF .lss (va.v.k) (0)) || (aF .gtr (va.v.k) (5)))),(0,.agg ([.int .i64 va.v.k,.int .i64 va.v.n,ak va.v.t,.slice va.sA va.v.s.length va.sC]).toArray),(1,.pointer (some ⟨b1,0,none⟩)),(2,.int .i64 0)] (fun hJ1=>?elA1) (fun a hF=>?flA1)
 case elA1 =>
  rcases tf (aF .lss (va.v.k) (0)) with hg1 | hg1
  ·refine aI hF O O O O (aj hg1) ae _ (yf 0 O QE O jU O) (fun a hF=>?_)
   refine aI hF O O O O (aj hg1) ae _ (aX O hA3.q O 0 O O jV) (fun a hF=>?_)
   refine aI hF O O O O (aj hg1) ae _ (aJ O O O O O) (fun a hF=>?_)
   refine vR hF<|vV O (aV hg1 rfl rfl rfl) fun a hF=>?_
   exact hJ1 _ ((hF.keep [12,0,1,2] (F':=[(12,_),(0,_),(1,_),(2,_)]) O).bool (by rw [hg1]; rfl))
  ·refine az hF O O O O O (aB hg1) ae (fun a hF=>?_)
   refine az hF O O O O O (aB hg1) ae (fun a hF=>?_)
   refine az hF O O O O O (aB hg1) ae (fun a hF=>?_)
   refine vR hF<|vV O (bg hg1 rfl rfl rfl) fun a hF=>?_
   exact hJ1 _ ((hF.keep [12,0,1,2] (F':=[(12,_),(0,_),(1,_),(2,_)]) O).bool (by rw [hg1]; rfl))
 refine aK<|hK3 _ _ ?_
 rcases tf ((aF .lss (va.v.k) (0)) || (aF .gtr (va.v.k) (5))) with h1 | h1
 ·refine au hF O h1 ?_
  apply wp_skip
  refine hK2 _ _ ?_
  apply wp_seq_k; intro K4 hK4
  refine wS hF fun K5 hK5=>vV O (yf 1 O QE O jC O)<|vV O (aX O hA3.q O 0 O O nJ)<|vV O (aJ O O O O O)<|vX O fun a hF=>?_
  refine bF (l2:=?lA2) hF [(30,.bool ((aF .neq (va.v.n) (0)) && (((aF .eql (va.v.k) (0)) || (aF .eql (va.v.k) (3))) || (aF .eql (va.v.k) (5))))),(0,.agg ([.int .i64 va.v.k,.int .i64 va.v.n,ak va.v.t,.slice va.sA va.v.s.length va.sC]).toArray),(1,.pointer (some ⟨b1,0,none⟩)),(2,.int .i64 0),(12,.bool ((aF .lss (va.v.k) (0)) || (aF .gtr (va.v.k) (5))))] (fun hJ2=>?elA2) (fun a hF=>?flA2)
  case elA2 =>
   rcases tf (aF .neq (va.v.n) (0)) with hg2 | hg2
   ·refine az hF O O O O O (aB hg2) ae (fun a hF=>?_)
    refine az hF O O O O O (aB hg2) ae (fun a hF=>?_)
    refine az hF O O O O O (aB hg2) ae (fun a hF=>?_)
    refine az hF O O O O O (aB hg2) ae (fun a hF=>?_)
    refine bf hF O O O O O ae (fun a hF=>?_)
    refine bf hF O O O O O ae (fun a hF=>?_)
    refine bf hF O O O O O ae (fun a hF=>?_)
    refine az hF O O O O O (aB hg2) ae (fun a hF=>?_)
    refine az hF O O O O O (aB hg2) ae (fun a hF=>?_)
    refine bf hF O O O O O ae (fun a hF=>?_)
    refine bf hF O O O O O ae (fun a hF=>?_)
    refine bf hF O O O O O ae (fun a hF=>?_)
    refine az hF O O O O O (aB hg2) ae (fun a hF=>?_)
    refine vR hF<|vV O (aV hg2 rfl rfl rfl) fun a hF=>?_
    exact hJ2 _ ((hF.keep [30,0,1,2,12] (F':=[(30,_),(0,_),(1,_),(2,_),(12,_)]) O).bool (by rw [hg2]; rfl))
   ·refine aI hF O O O O (aj hg2) ae _ (yf 0 O QE O jU O) (fun a hF=>?_)
    refine aI hF O O O O (aj hg2) ae _ (aX O hA3.q O 0 O O jV) (fun a hF=>?_)
    refine aI hF O O O O (aj hg2) ae _ (aJ O O O O O) (fun a hF=>?_)
    refine aI hF O O O O (aj hg2) ae _ (aY O O) (fun a hF=>?_)
    refine bF (l2:=?lA3) hF [(24,.bool ((aF .eql (va.v.k) (0)) || (aF .eql (va.v.k) (3)))),(0,.agg ([.int .i64 va.v.k,.int .i64 va.v.n,ak va.v.t,.slice va.sA va.v.s.length va.sC]).toArray),(1,.pointer (some ⟨b1,0,none⟩)),(2,.int .i64 0),(12,.bool ((aF .lss (va.v.k) (0)) || (aF .gtr (va.v.k) (5)))),(16,.bool (aF .neq (va.v.n) (0)))] (fun hJ3=>?elA3) (fun a hF=>?flA3)
    case elA3 =>
     rcases tf (aF .eql (va.v.k) (0)) with hg3 | hg3
     ·refine aI hF O O O O (aj hg3) ae _ (yf 0 O QE O jU O) (fun a hF=>?_)
      refine aI hF O O O O (aj hg3) ae _ (aX O hA3.q O 0 O O jV) (fun a hF=>?_)
      refine aI hF O O O O (aj hg3) ae _ (aJ O O O O O) (fun a hF=>?_)
      refine aI hF O O O O (aj hg2) ae _ (aV hg3 rfl rfl rfl) (fun a hF=>?_)
      exact hJ3 _ ((hF.keep [24,0,1,2,12,16] (F':=[(24,_),(0,_),(1,_),(2,_),(12,_),(16,_)]) O).bool (by rw [hg3]; rfl))
     ·refine az hF O O O O O (aB hg3) ae (fun a hF=>?_)
      refine az hF O O O O O (aB hg3) ae (fun a hF=>?_)
      refine az hF O O O O O (aB hg3) ae (fun a hF=>?_)
      refine aI hF O O O O (aj hg2) ae _ (bg hg3 rfl rfl rfl) (fun a hF=>?_)
      exact hJ3 _ ((hF.keep [24,0,1,2,12,16] (F':=[(24,_),(0,_),(1,_),(2,_),(12,_),(16,_)]) O).bool (by rw [hg3]; rfl))
    refine aI hF O O O O (aj hg2) ae _ (aY O O) (fun a hF=>?_)
    refine bF (l2:=?lA4) hF [(29,.bool (((aF .eql (va.v.k) (0)) || (aF .eql (va.v.k) (3))) || (aF .eql (va.v.k) (5)))),(0,.agg ([.int .i64 va.v.k,.int .i64 va.v.n,ak va.v.t,.slice va.sA va.v.s.length va.sC]).toArray),(1,.pointer (some ⟨b1,0,none⟩)),(2,.int .i64 0),(12,.bool ((aF .lss (va.v.k) (0)) || (aF .gtr (va.v.k) (5)))),(16,.bool (aF .neq (va.v.n) (0)))] (fun hJ4=>?elA4) (fun a hF=>?flA4)
    case elA4 =>
     rcases tf ((aF .eql (va.v.k) (0)) || (aF .eql (va.v.k) (3))) with hg4 | hg4
     ·refine aI hF O O O O (aj hg4) ae _ (yf 0 O QE O jU O) (fun a hF=>?_)
      refine aI hF O O O O (aj hg4) ae _ (aX O hA3.q O 0 O O jV) (fun a hF=>?_)
      refine aI hF O O O O (aj hg4) ae _ (aJ O O O O O) (fun a hF=>?_)
      refine aI hF O O O O (aj hg2) ae _ (aV hg4 rfl rfl rfl) (fun a hF=>?_)
      exact hJ4 _ ((hF.keep [29,0,1,2,12,16] (F':=[(29,_),(0,_),(1,_),(2,_),(12,_),(16,_)]) O).bool (by rw [hg4]; rfl))
     ·refine az hF O O O O O (aB hg4) ae (fun a hF=>?_)
      refine az hF O O O O O (aB hg4) ae (fun a hF=>?_)
      refine az hF O O O O O (aB hg4) ae (fun a hF=>?_)
      refine aI hF O O O O (aj hg2) ae _ (bg hg4 rfl rfl rfl) (fun a hF=>?_)
      exact hJ4 _ ((hF.keep [29,0,1,2,12,16] (F':=[(29,_),(0,_),(1,_),(2,_),(12,_),(16,_)]) O).bool (by rw [hg4]; rfl))
    refine vR hF<|vV O (bg hg2 rfl rfl rfl) fun a hF=>?_
    exact hJ2 _ ((hF.keep [30,0,1,2,12] (F':=[(30,_),(0,_),(1,_),(2,_),(12,_)]) O).bool (by rw [hg2]; rfl))
  refine vR hF<|vX O fun a hF=>?_
  refine bF (l2:=?lA5) hF [(40,.bool (((aF .neq (va.v.n) (0)) && (((aF .eql (va.v.k) (0)) || (aF .eql (va.v.k) (3))) || (aF .eql (va.v.k) (5)))) || ((bI .neq va.v.t []) && (aF .neq (va.v.k) (3))))),(0,.agg ([.int .i64 va.v.k,.int .i64 va.v.n,ak va.v.t,.slice va.sA va.v.s.length va.sC]).toArray),(1,.pointer (some ⟨b1,0,none⟩)),(2,.int .i64 0),(12,.bool ((aF .lss (va.v.k) (0)) || (aF .gtr (va.v.k) (5))))] (fun hJ5=>?elA5) (fun a hF=>?flA5)
  case elA5 =>
   rcases tf ((aF .neq (va.v.n) (0)) && (((aF .eql (va.v.k) (0)) || (aF .eql (va.v.k) (3))) || (aF .eql (va.v.k) (5)))) with hg5 | hg5
   ·refine aI hF O O O O (aj hg5) ae _ (yf 2 O QE O xq O) (fun a hF=>?_)
    refine aI hF O O O O (aj hg5) ae _ (aX O hA3.q O 0 O O xM) (fun a hF=>?_)
    refine aI hF O O O O (aj hg5) ae _ (eF O O O O O) (fun a hF=>?_)
    refine aI hF O O O O (aj hg5) ae _ (aY O O) (fun a hF=>?_)
    refine bF (l2:=?lA6) hF [(39,.bool ((bI .neq va.v.t []) && (aF .neq (va.v.k) (3)))),(0,.agg ([.int .i64 va.v.k,.int .i64 va.v.n,ak va.v.t,.slice va.sA va.v.s.length va.sC]).toArray),(1,.pointer (some ⟨b1,0,none⟩)),(2,.int .i64 0),(12,.bool ((aF .lss (va.v.k) (0)) || (aF .gtr (va.v.k) (5)))),(31,.bool ((aF .neq (va.v.n) (0)) && (((aF .eql (va.v.k) (0)) || (aF .eql (va.v.k) (3))) || (aF .eql (va.v.k) (5)))))] (fun hJ6=>?elA6) (fun a hF=>?flA6)
    case elA6 =>
     rcases tf (bI .neq va.v.t []) with hg6 | hg6
     ·refine az hF O O O O O (aB hg6) ae (fun a hF=>?_)
      refine az hF O O O O O (aB hg6) ae (fun a hF=>?_)
      refine az hF O O O O O (aB hg6) ae (fun a hF=>?_)
      refine aI hF O O O O (aj hg5) ae _ (aV hg6 rfl rfl rfl) (fun a hF=>?_)
      exact hJ6 _ ((hF.keep [39,0,1,2,12,31] (F':=[(39,_),(0,_),(1,_),(2,_),(12,_),(31,_)]) O).bool (by rw [hg6]; rfl))
     ·refine aI hF O O O O (aj hg6) ae _ (yf 0 O QE O jU O) (fun a hF=>?_)
      refine aI hF O O O O (aj hg6) ae _ (aX O hA3.q O 0 O O jV) (fun a hF=>?_)
      refine aI hF O O O O (aj hg6) ae _ (aJ O O O O O) (fun a hF=>?_)
      refine aI hF O O O O (aj hg5) ae _ (bg hg6 rfl rfl rfl) (fun a hF=>?_)
      exact hJ6 _ ((hF.keep [39,0,1,2,12,31] (F':=[(39,_),(0,_),(1,_),(2,_),(12,_),(31,_)]) O).bool (by rw [hg6]; rfl))
    refine vR hF<|vV O (aV hg5 rfl rfl rfl) fun a hF=>?_
    exact hJ5 _ ((hF.keep [40,0,1,2,12] (F':=[(40,_),(0,_),(1,_),(2,_),(12,_)]) O).bool (by rw [hg5]; rfl))
   ·refine az hF O O O O O (aB hg5) ae (fun a hF=>?_)
    refine az hF O O O O O (aB hg5) ae (fun a hF=>?_)
    refine az hF O O O O O (aB hg5) ae (fun a hF=>?_)
    refine az hF O O O O O (aB hg5) ae (fun a hF=>?_)
    refine bf hF O O O O O ae (fun a hF=>?_)
    refine bf hF O O O O O ae (fun a hF=>?_)
    refine bf hF O O O O O ae (fun a hF=>?_)
    refine az hF O O O O O (aB hg5) ae (fun a hF=>?_)
    refine vR hF<|vV O (bg hg5 rfl rfl rfl) fun a hF=>?_
    exact hJ5 _ ((hF.keep [40,0,1,2,12] (F':=[(40,_),(0,_),(1,_),(2,_),(12,_)]) O).bool (by rw [hg5]; rfl))
  refine vR hF<|vX O fun a hF=>?_
  refine bF (l2:=?lA7) hF [(51,.bool ((((aF .neq (va.v.n) (0)) && (((aF .eql (va.v.k) (0)) || (aF .eql (va.v.k) (3))) || (aF .eql (va.v.k) (5)))) || ((bI .neq va.v.t []) && (aF .neq (va.v.k) (3)))) || ((aF .gtr (va.v.s.length) (0)) && (aF .neq (va.v.k) (5))))),(0,.agg ([.int .i64 va.v.k,.int .i64 va.v.n,ak va.v.t,.slice va.sA va.v.s.length va.sC]).toArray),(1,.pointer (some ⟨b1,0,none⟩)),(2,.int .i64 0),(12,.bool ((aF .lss (va.v.k) (0)) || (aF .gtr (va.v.k) (5))))] (fun hJ7=>?elA7) (fun a hF=>?flA7)
  case elA7 =>
   rcases tf (((aF .neq (va.v.n) (0)) && (((aF .eql (va.v.k) (0)) || (aF .eql (va.v.k) (3))) || (aF .eql (va.v.k) (5)))) || ((bI .neq va.v.t []) && (aF .neq (va.v.k) (3)))) with hg7 | hg7
   ·refine aI hF O O O O (aj hg7) ae _ (yf 3 O QE O nU O) (fun a hF=>?_)
    refine aI hF O O O O (aj hg7) ae _ (aX O hA3.q O 0 O O nZ) (fun a hF=>?_)
    refine aI hF O O O O (aj hg7) ae _ (aT O Qr O O) (fun a hF=>?_)
    refine aI hF O O O O (aj hg7) ae _ (aJ O O O O O) (fun a hF=>?_)
    refine aI hF O O O O (aj hg7) ae _ (aY O O) (fun a hF=>?_)
    refine bF (l2:=?lA8) hF [(50,.bool ((aF .gtr (va.v.s.length) (0)) && (aF .neq (va.v.k) (5)))),(0,.agg ([.int .i64 va.v.k,.int .i64 va.v.n,ak va.v.t,.slice va.sA va.v.s.length va.sC]).toArray),(1,.pointer (some ⟨b1,0,none⟩)),(2,.int .i64 0),(12,.bool ((aF .lss (va.v.k) (0)) || (aF .gtr (va.v.k) (5)))),(41,.bool (((aF .neq (va.v.n) (0)) && (((aF .eql (va.v.k) (0)) || (aF .eql (va.v.k) (3))) || (aF .eql (va.v.k) (5)))) || ((bI .neq va.v.t []) && (aF .neq (va.v.k) (3)))))] (fun hJ8=>?elA8) (fun a hF=>?flA8)
    case elA8 =>
     rcases tf (aF .gtr (va.v.s.length) (0)) with hg8 | hg8
     ·refine az hF O O O O O (aB hg8) ae (fun a hF=>?_)
      refine az hF O O O O O (aB hg8) ae (fun a hF=>?_)
      refine az hF O O O O O (aB hg8) ae (fun a hF=>?_)
      refine aI hF O O O O (aj hg7) ae _ (aV hg8 rfl rfl rfl) (fun a hF=>?_)
      exact hJ8 _ ((hF.keep [50,0,1,2,12,41] (F':=[(50,_),(0,_),(1,_),(2,_),(12,_),(41,_)]) O).bool (by rw [hg8]; rfl))
     ·refine aI hF O O O O (aj hg8) ae _ (yf 0 O QE O jU O) (fun a hF=>?_)
      refine aI hF O O O O (aj hg8) ae _ (aX O hA3.q O 0 O O jV) (fun a hF=>?_)
      refine aI hF O O O O (aj hg8) ae _ (aJ O O O O O) (fun a hF=>?_)
      refine aI hF O O O O (aj hg7) ae _ (bg hg8 rfl rfl rfl) (fun a hF=>?_)
      exact hJ8 _ ((hF.keep [50,0,1,2,12,41] (F':=[(50,_),(0,_),(1,_),(2,_),(12,_),(41,_)]) O).bool (by rw [hg8]; rfl))
    refine vR hF<|vV O (aV hg7 rfl rfl rfl) fun a hF=>?_
    exact hJ7 _ ((hF.keep [51,0,1,2,12] (F':=[(51,_),(0,_),(1,_),(2,_),(12,_)]) O).bool (by rw [hg7]; rfl))
   ·refine az hF O O O O O (aB hg7) ae (fun a hF=>?_)
    refine az hF O O O O O (aB hg7) ae (fun a hF=>?_)
    refine az hF O O O O O (aB hg7) ae (fun a hF=>?_)
    refine az hF O O O O O (aB hg7) ae (fun a hF=>?_)
    refine az hF O O O O O (aB hg7) ae (fun a hF=>?_)
    refine bf hF O O O O O ae (fun a hF=>?_)
    refine bf hF O O O O O ae (fun a hF=>?_)
    refine bf hF O O O O O ae (fun a hF=>?_)
    refine az hF O O O O O (aB hg7) ae (fun a hF=>?_)
    refine vR hF<|vV O (bg hg7 rfl rfl rfl) fun a hF=>?_
    exact hJ7 _ ((hF.keep [51,0,1,2,12] (F':=[(51,_),(0,_),(1,_),(2,_),(12,_)]) O).bool (by rw [hg7]; rfl))
  refine aK<|hK5 _ _ ?_
  rcases tf ((((aF .neq (va.v.n) (0)) && (((aF .eql (va.v.k) (0)) || (aF .eql (va.v.k) (3))) || (aF .eql (va.v.k) (5)))) || ((bI .neq va.v.t []) && (aF .neq (va.v.k) (3)))) || ((aF .gtr (va.v.s.length) (0)) && (aF .neq (va.v.k) (5)))) with h2 | h2
  ·refine au hF O h2 ?_
   apply wp_skip
   refine hK4 _ _ ?_
   apply wp_seq_k; intro K6 hK6
   refine wS hF fun K7 hK7=>vV O (yf 0 O QE O jU O)<|vV O (aX O hA3.q O 0 O O jV)<|vV O (aJ O O O O O)<|vX O fun a hF=>?_
   refine bF (l2:=?lA9) hF [(59,.bool ((aF .eql (va.v.k) (2)) && (aF .neq (va.v.n) (0)))),(0,.agg ([.int .i64 va.v.k,.int .i64 va.v.n,ak va.v.t,.slice va.sA va.v.s.length va.sC]).toArray),(1,.pointer (some ⟨b1,0,none⟩)),(2,.int .i64 0),(12,.bool ((aF .lss (va.v.k) (0)) || (aF .gtr (va.v.k) (5)))),(51,.bool ((((aF .neq (va.v.n) (0)) && (((aF .eql (va.v.k) (0)) || (aF .eql (va.v.k) (3))) || (aF .eql (va.v.k) (5)))) || ((bI .neq va.v.t []) && (aF .neq (va.v.k) (3)))) || ((aF .gtr (va.v.s.length) (0)) && (aF .neq (va.v.k) (5)))))] (fun hJ9=>?elA9) (fun a hF=>?flA9)
   case elA9 =>
    rcases tf (aF .eql (va.v.k) (2)) with hg9 | hg9
    ·refine az hF O O O O O (aB hg9) ae (fun a hF=>?_)
     refine az hF O O O O O (aB hg9) ae (fun a hF=>?_)
     refine az hF O O O O O (aB hg9) ae (fun a hF=>?_)
     refine vR hF<|vV O (aV hg9 rfl rfl rfl) fun a hF=>?_
     exact hJ9 _ ((hF.keep [59,0,1,2,12,51] (F':=[(59,_),(0,_),(1,_),(2,_),(12,_),(51,_)]) O).bool (by rw [hg9]; rfl))
    ·refine aI hF O O O O (aj hg9) ae _ (yf 1 O QE O jC O) (fun a hF=>?_)
     refine aI hF O O O O (aj hg9) ae _ (aX O hA3.q O 0 O O nJ) (fun a hF=>?_)
     refine aI hF O O O O (aj hg9) ae _ (aJ O O O O O) (fun a hF=>?_)
     refine vR hF<|vV O (bg hg9 rfl rfl rfl) fun a hF=>?_
     exact hJ9 _ ((hF.keep [59,0,1,2,12,51] (F':=[(59,_),(0,_),(1,_),(2,_),(12,_),(51,_)]) O).bool (by rw [hg9]; rfl))
   refine vR hF<|vX O fun a hF=>?_
   refine bF (l2:=?lA10) hF [(64,.bool (((aF .eql (va.v.k) (2)) && (aF .neq (va.v.n) (0))) && (aF .neq (va.v.n) (1)))),(0,.agg ([.int .i64 va.v.k,.int .i64 va.v.n,ak va.v.t,.slice va.sA va.v.s.length va.sC]).toArray),(1,.pointer (some ⟨b1,0,none⟩)),(2,.int .i64 0),(12,.bool ((aF .lss (va.v.k) (0)) || (aF .gtr (va.v.k) (5)))),(51,.bool ((((aF .neq (va.v.n) (0)) && (((aF .eql (va.v.k) (0)) || (aF .eql (va.v.k) (3))) || (aF .eql (va.v.k) (5)))) || ((bI .neq va.v.t []) && (aF .neq (va.v.k) (3)))) || ((aF .gtr (va.v.s.length) (0)) && (aF .neq (va.v.k) (5)))))] (fun hJ10=>?elA10) (fun a hF=>?flA10)
   case elA10 =>
    rcases tf ((aF .eql (va.v.k) (2)) && (aF .neq (va.v.n) (0))) with hg10 | hg10
    ·refine az hF O O O O O (aB hg10) ae (fun a hF=>?_)
     refine az hF O O O O O (aB hg10) ae (fun a hF=>?_)
     refine az hF O O O O O (aB hg10) ae (fun a hF=>?_)
     refine vR hF<|vV O (aV hg10 rfl rfl rfl) fun a hF=>?_
     exact hJ10 _ ((hF.keep [64,0,1,2,12,51] (F':=[(64,_),(0,_),(1,_),(2,_),(12,_),(51,_)]) O).bool (by rw [hg10]; rfl))
    ·refine aI hF O O O O (aj hg10) ae _ (yf 1 O QE O jC O) (fun a hF=>?_)
     refine aI hF O O O O (aj hg10) ae _ (aX O hA3.q O 0 O O nJ) (fun a hF=>?_)
     refine aI hF O O O O (aj hg10) ae _ (aJ O O O O O) (fun a hF=>?_)
     refine vR hF<|vV O (bg hg10 rfl rfl rfl) fun a hF=>?_
     exact hJ10 _ ((hF.keep [64,0,1,2,12,51] (F':=[(64,_),(0,_),(1,_),(2,_),(12,_),(51,_)]) O).bool (by rw [hg10]; rfl))
   refine aK<|hK7 _ _ ?_
   rcases tf (((aF .eql (va.v.k) (2)) && (aF .neq (va.v.n) (0))) && (aF .neq (va.v.n) (1))) with h3 | h3
   ·refine au hF O h3 ?_
    obtain ⟨hk,hb,hcn⟩:=Ky h1 h2 h3
    apply wp_skip
    refine hK6 _ _ ?_
    apply wp_seq_k; intro K8 hK8
    refine wS hF fun K9 hK9=>vX O<|vE hK9<|wBk fun a hF=>?_
    refine bG (G:=Nat) (fun i a x=>1≤i∧(i=1∨i≤va.v.s.length)∧ed va.v.s i=true∧Fr 120 [(3,.int .i64 (i:Int)),(1,.pointer (some ⟨b1,0,none⟩))] a∧Hp w0 ([row b1 25 [.int .i64 va.v.k,.int .i64 va.v.n,ak va.v.t,.slice va.sA va.v.s.length va.sC]]::R) x) (fun i=>va.v.s.length-i) 1 (⟨Qw _,.inl rfl,rfl,hF.keep [3,1] rfl,hA3⟩) ?_
    clear hF
    rintro i a w5 ⟨hi1,hi,hr,hF,hA4⟩
    apply wp_seq_k; intro K10 hK10
    refine wS hF fun K11 hK11=>vX O<|vV O (yf 3 O QE O nU O)<|vV O (aX O hA4.q O 0 O O nZ)<|vV O (aT O Qr O O)<|vV O (aJ O O O O O)<|vE hK11 fun a hF=>?_
    by_cases hlt:i<va.v.s.length
    ·refine aG hF O (dA ag) ?_
     obtain ⟨q,hp⟩:∃ q,va.v.s[i]? = some q:=⟨_,List.getElem?_eq_getElem hlt⟩
     obtain ⟨q0,hp0⟩:∃ q,va.v.s[i-1]? = some q:=⟨_,List.getElem?_eq_getElem ag⟩
     obtain ⟨b,o,hsA,hc⟩:=hV.rc.ne (i:=i) (by rw [List.length_map]; exact hlt)
     rw [hsA] at hA4
     apply wp_skip
     refine hK10 _ _ ?_
     apply wp_seq_k; intro K12 hK12
     apply wp_block
     apply wp_seq_k; intro K13 hK13
     refine aU 12 [12] [0,1,2,3,4,5,6,7,8,9,10,11,12] _ af af (Hq.drew hA4.q) ?_
     have hA6:=Hl.drew hA4
     refine pR hF<|pW O O (fun _=>yf 3 O QE O nU O)<|pV O O (fun x hx=>aX O hx O 0 O O nZ)<|pX O O<|pW O O (fun _=>dE O O O (Qu _ ag))<|pW O O (fun _=>bV O Qr xq O O (i-1) ag ag (ad2 _ _ _))<|pV O O (fun x hx=>dN (u:=ak q0) rfl (Hq.sub hx (List.Subset.trans hG ((bJ (dD))))) O hc (i-1) (by rw [List.length_map]; omega) rfl (by rw [List.getElem?_map,hp0]; rfl) xM) fun a hF=>?_
     refine pR hF<|pW O O (fun _=>yf 3 O QE O nU O)<|pV O O (fun x hx=>aX O hx O 0 O O nZ)<|pX O O<|pW O O (fun _=>bV O Qr xq O O i rfl ag (ad2 _ _ _))<|pV O O (fun x hx=>dN (u:=ak q) rfl (Hq.sub hx (List.Subset.trans hG ((bJ (dD))))) O hc i (by rw [List.length_map]; omega) rfl (by rw [List.getElem?_map,hp]; rfl) xM) fun a hF=>?_
     refine pR hF<|pW O O (fun _=>eF O O O O O) fun a hF=>?_
     refine gu hF O O O O ae _ (dI O O O) (fun h=>absurd h ae) (fun a hF=>?_)
     refine bP ?_
     refine hK13 _ _ ?_
     rcases tf (bI .geq q0 q) with hge | hge
     ·refine au hF O (by rw [Du,hge]; rfl) ?_
      apply wp_skip
      refine hK12 _ _ ?_
      refine wp_region_lit ?_
      refine vR hF<|vX O<|vV O (bH O O O (Qu _ ag))<|vX O fun a hF=>?_
      refine aK ?_
      rw [← hsA] at hA6
      exact ⟨i+1,ag,ag,.inr ag,zf hi1 hp0 hp hr hge,hF.keep [3,1] rfl,hA6⟩
     ·refine aG hF O (by rw [Du,hge]; rfl) ?_
      refine wS hF fun K14 hK14=>vX O<|vE hK14 fun a hF=>?_
      apply wp_ret
      simp only [Exit.then,Exit.inBlock]
      refine aO hF Tryz.results107 O ?_
      have hA7:Hp w0 (R) w5.drew:=hpS 1 [] [0] hA6 rfl
      exact ⟨by rw [NT hk hb (zg hi1 hlt hp0 hp hge)]; rfl,hA7⟩
    ·refine au hF O (dm ag) ?_
     have hfo:=Ew hk hb hcn (wu hi1 hi hlt hr)
     apply wp_exit
     refine hK8 _ _ ?_
     apply wp_seq_k; intro K15 hK15
     refine wS hF fun K16 hK16=>vV O (yf 0 O QE O jU O)<|vV O (aX O hA4.q O 0 O O jV)<|vV O (aJ O O O O O)<|vX O fun a hF=>?_
     refine bF (l2:=?lA11) hF [(97,.bool ((aF .eql (va.v.k) (4)) && ((aF .lss (va.v.n) (0)) || (aF .gtr (va.v.n) (4611686018427387904))))),(1,.pointer (some ⟨b1,0,none⟩)),(3,.int .i64 (i:Int)),(65,.int .i64 (i:Int)),(66,.pointer (some ⟨b1,3,none⟩)),(67,.slice va.sA va.v.s.length va.sC),(68,.int .i64 va.v.s.length),(69,.bool (aF .lss ((i:Int)) (va.v.s.length)))] (fun hJ11=>?elA11) (fun a hF=>?flA11)
     case elA11 =>
      rcases tf (aF .eql (va.v.k) (4)) with hg11 | hg11
      ·refine az hF O O O O O (aB hg11) ae (fun a hF=>?_)
       refine az hF O O O O O (aB hg11) ae (fun a hF=>?_)
       refine az hF O O O O O (aB hg11) ae (fun a hF=>?_)
       refine az hF O O O O O (aB hg11) ae (fun a hF=>?_)
       refine bf hF O O O O O ae (fun a hF=>?_)
       refine bf hF O O O O O ae (fun a hF=>?_)
       refine bf hF O O O O O ae (fun a hF=>?_)
       refine az hF O O O O O (aB hg11) ae (fun a hF=>?_)
       refine vR hF<|vV O (aV hg11 rfl rfl rfl) fun a hF=>?_
       exact hJ11 _ ((hF.keep [97,1,3,65,66,67,68,69] (F':=[(97,_),(1,_),(3,_),(65,_),(66,_),(67,_),(68,_),(69,_)]) O).bool (by rw [hg11]; rfl))
      ·refine aI hF O O O O (aj hg11) ae _ (yf 1 O QE O jC O) (fun a hF=>?_)
       refine aI hF O O O O (aj hg11) ae _ (aX O hA4.q O 0 O O nJ) (fun a hF=>?_)
       refine aI hF O O O O (aj hg11) ae _ (aJ O O O O O) (fun a hF=>?_)
       refine aI hF O O O O (aj hg11) ae _ (aY O O) (fun a hF=>?_)
       refine bF (l2:=?lA12) hF [(96,.bool ((aF .lss (va.v.n) (0)) || (aF .gtr (va.v.n) (4611686018427387904)))),(1,.pointer (some ⟨b1,0,none⟩)),(3,.int .i64 (i:Int)),(65,.int .i64 (i:Int)),(66,.pointer (some ⟨b1,3,none⟩)),(67,.slice va.sA va.v.s.length va.sC),(68,.int .i64 va.v.s.length),(69,.bool (aF .lss ((i:Int)) (va.v.s.length))),(88,.bool (aF .eql (va.v.k) (4)))] (fun hJ12=>?elA12) (fun a hF=>?flA12)
       case elA12 =>
        rcases tf (aF .lss (va.v.n) (0)) with hg12 | hg12
        ·refine aI hF O O O O (aj hg12) ae _ (yf 1 O QE O jC O) (fun a hF=>?_)
         refine aI hF O O O O (aj hg12) ae _ (aX O hA4.q O 0 O O nJ) (fun a hF=>?_)
         refine aI hF O O O O (aj hg12) ae _ (aJ O O O O O) (fun a hF=>?_)
         refine aI hF O O O O (aj hg11) ae _ (aV hg12 rfl rfl rfl) (fun a hF=>?_)
         exact hJ12 _ ((hF.keep [96,1,3,65,66,67,68,69,88] (F':=[(96,_),(1,_),(3,_),(65,_),(66,_),(67,_),(68,_),(69,_),(88,_)]) O).bool (by rw [hg12]; rfl))
        ·refine az hF O O O O O (aB hg12) ae (fun a hF=>?_)
         refine az hF O O O O O (aB hg12) ae (fun a hF=>?_)
         refine az hF O O O O O (aB hg12) ae (fun a hF=>?_)
         refine aI hF O O O O (aj hg11) ae _ (bg hg12 rfl rfl rfl) (fun a hF=>?_)
         exact hJ12 _ ((hF.keep [96,1,3,65,66,67,68,69,88] (F':=[(96,_),(1,_),(3,_),(65,_),(66,_),(67,_),(68,_),(69,_),(88,_)]) O).bool (by rw [hg12]; rfl))
       refine vR hF<|vV O (bg hg11 rfl rfl rfl) fun a hF=>?_
       exact hJ11 _ ((hF.keep [97,1,3,65,66,67,68,69] (F':=[(97,_),(1,_),(3,_),(65,_),(66,_),(67,_),(68,_),(69,_)]) O).bool (by rw [hg11]; rfl))
     refine aK<|hK16 _ _ ?_
     rcases tf ((aF .eql (va.v.k) (4)) && ((aF .lss (va.v.n) (0)) || (aF .gtr (va.v.n) (4611686018427387904)))) with h4 | h4
     ·refine au hF O h4 ?_
      apply wp_skip
      refine hK15 _ _ ?_
      apply wp_seq_k; intro K17 hK17
      refine wS hF fun K18 hK18=>vV O (yf 2 O QE O xq O)<|vV O (aX O hA4.q O 0 O O xM)<|vV O (eH (z:=(va.v.t.length:Nat)) O QB O O)<|vV O (aJ O O O O O)<|vE hK18 fun a hF=>?_
      rcases tf (aF .gtr ((va.v.t.length:Nat)) (1024)) with h5 | h5
      ·refine au hF O h5 ?_
       apply wp_skip
       refine hK17 _ _ ?_
       apply wp_seq_k; intro K19 hK19
       refine wS hF fun K20 hK20=>vX O<|vE hK20<|wBk fun a hF=>?_
       refine bG (G:=Nat) (fun i a x=>i≤va.v.s.length∧(va.v.s.take i).any fM=false∧Fr 120 [(4,.int .i64 (i:Int)),(1,.pointer (some ⟨b1,0,none⟩))] a∧Hp w0 ([row b1 25 [.int .i64 va.v.k,.int .i64 va.v.n,ak va.v.t,.slice va.sA va.v.s.length va.sC]]::R) x) (fun i=>va.v.s.length-i) 0 (⟨Qs _,rfl,hF.keep [4,1] rfl,hA4⟩) ?_
       clear hF
       rintro i a w9 ⟨hi,hall,hF,hA8⟩
       apply wp_seq_k; intro K21 hK21
       refine wS hF fun K22 hK22=>vX O<|vV O (yf 3 O QE O nU O)<|vV O (aX O hA8.q O 0 O O nZ)<|vV O (aT O Qr O O)<|vV O (aJ O O O O O)<|vE hK22 fun a hF=>?_
       by_cases hlt:i<va.v.s.length
       ·refine aG hF O (dA ag) ?_
        obtain ⟨q,hp⟩:∃ q,va.v.s[i]? = some q:=⟨_,List.getElem?_eq_getElem hlt⟩
        obtain ⟨b,o,hsA,hc⟩:=hV.rc.ne (i:=i) (by rw [List.length_map]; exact hlt)
        rw [hsA] at hA8
        apply wp_skip
        refine hK21 _ _ ?_
        apply wp_seq_k; intro K23 hK23
        apply wp_block
        refine wS hF fun K24 hK24=>vV O (yf 3 O QE O nU O)<|vV O (aX O hA8.q O 0 O O nZ)<|vX O<|vV O (bV O Qr xq O O i rfl hlt (ad2 _ _ _))<|vV O (dN (u:=ak q) rfl (Hq.sub hA8.q (List.Subset.trans hG ((bJ (dD))))) O hc i (by rw [List.length_map]; exact hlt) rfl (by rw [List.getElem?_map,hp]; rfl) xM) fun a hF=>?_
        refine vR hF<|vV O (eH (z:=(q.length:Nat)) O QB O O)<|vV O (aJ O O O O O)<|vE hK24 fun a hF=>?_
        rcases tf (fM q) with hw | hw
        ·refine au hF O (OB hw) ?_
         apply wp_skip
         refine hK23 _ _ ?_
         refine wp_region_lit ?_
         refine vR hF<|vX O<|vV O (bH O O O (Qu _ ag))<|vX O fun a hF=>?_
         refine aK ?_
         rw [← hsA] at hA8
         exact ⟨i+1,ag,ag,AL hp hall hw,hF.keep [4,1] rfl,hA8⟩
        ·refine aG hF O (OA hw) ?_
         refine wS hF fun K25 hK25=>vX O<|vE hK25 fun a hF=>?_
         apply wp_ret
         simp only [Exit.then,Exit.inBlock]
         refine aO hF Tryz.results107 O ?_
         have hA10:Hp w0 (R) w9:=hpS 1 [] [0] hA8 rfl
         exact ⟨by rw [KC hfo h4 h5 hp hw]; rfl,hA10⟩
       ·refine au hF O (dm ag) ?_
        obtain rfl:i=va.v.s.length:=by omega
        rw [List.take_length] at hall
        apply wp_exit
        refine hK19 _ _ ?_
        apply wp_seq_k; intro K26 hK26
        refine wS hF fun K27 hK27=>vV O (yf 3 O QE O nU O)<|vV O (aX O hA8.q O 0 O O nZ)<|vV O (aT O Qr O O)<|vV O (aJ O O O O O)<|vE hK27 fun a hF=>?_
        rcases tf (aF .gtr (va.v.s.length) (64)) with h6 | h6
        ·refine au hF O h6 ?_
         apply wp_skip
         refine hK26 _ _ ?_
         refine wS hF fun K28 hK28=>vX O<|vE hK28 fun a hF=>?_
         apply wp_ret
         refine aO hF Tryz.results107 O ?_
         have hA11:Hp w0 (R) w9:=hpS 1 [] [0] hA8 rfl
         exact ⟨by rw [P7 hfo h4 h5 hall h6]; rfl,hA11⟩
        ·refine aG hF O h6 ?_
         refine wS hF fun K29 hK29=>vX O<|vE hK29 fun a hF=>?_
         apply wp_ret
         simp only [Exit.then]
         refine aO hF Tryz.results107 O ?_
         have hA12:Hp w0 (R) w9:=hpS 1 [] [0] hA8 rfl
         exact ⟨by rw [NU hfo h4 h5 hall h6]; rfl,hA12⟩
      ·refine aG hF O h5 ?_
       refine wS hF fun K30 hK30=>vX O<|vE hK30 fun a hF=>?_
       apply wp_ret
       simp only [Exit.then]
       refine aO hF Tryz.results107 O ?_
       have hA13:Hp w0 (R) w5:=hpS 1 [] [0] hA4 rfl
       exact ⟨by rw [NV hfo h4 h5]; rfl,hA13⟩
     ·refine aG hF O h4 ?_
      refine wS hF fun K31 hK31=>vX O<|vE hK31 fun a hF=>?_
      apply wp_ret
      simp only [Exit.then]
      refine aO hF Tryz.results107 O ?_
      have hA14:Hp w0 (R) w5:=hpS 1 [] [0] hA4 rfl
      exact ⟨by rw [NW hfo h4]; rfl,hA14⟩
   ·refine aG hF O h3 ?_
    refine wS hF fun K32 hK32=>vX O<|vE hK32 fun a hF=>?_
    apply wp_ret
    simp only [Exit.then]
    refine aO hF Tryz.results107 O ?_
    have hA15:Hp w0 (R) w2:=hpS 1 [] [0] hA3 rfl
    exact ⟨by rw [KA h3]; rfl,hA15⟩
  ·refine aG hF O h2 ?_
   refine wS hF fun K33 hK33=>vX O<|vE hK33 fun a hF=>?_
   apply wp_ret
   simp only [Exit.then]
   refine aO hF Tryz.results107 O ?_
   have hA16:Hp w0 (R) w2:=hpS 1 [] [0] hA3 rfl
   exact ⟨by rw [Kz h2]; rfl,hA16⟩
 ·refine aG hF O h1 ?_
  refine wS hF fun K34 hK34=>vX O<|vE hK34 fun a hF=>?_
  apply wp_ret
  simp only [Exit.then]
  refine aO hF Tryz.results107 O ?_
  have hA17:Hp w0 (R) w2:=hpS 1 [] [0] hA3 rfl
  exact ⟨by rw [Kw h1]; rfl,hA17⟩
end Go.Proofs.YtepbmdlgdaedpaaGreatDoor
