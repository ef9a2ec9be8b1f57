/- The document's own: numbers and names as bytes, legal names, what is right. -/
import Derived.Test.YtepbmdlgdaedpaaGreatDoorEv9
import Derived.Test.YtepbmdlgdaedpaaGreatDoorOpenR
import Derived.Test.YtepbmdlgdaedpaaGreatDoorRf
/- The document's own: numbers and names as bytes, legal names, what is right. -/
namespace Go.Proofs.YtepbmdlgdaedpaaGreatDoor
open Go.RowKit Go.Dk
theorem zQ:aO Tryz.prog 108:=⟨_,Tryz.func108,af,af⟩
theorem zL:aO Tryz.prog 157:=⟨_,Tryz.func157,af,af⟩
theorem zK:aO Tryz.prog 160:=⟨_,Tryz.func160,af,af⟩
theorem zJ:aO Tryz.prog 161:=⟨_,Tryz.func161,af,af⟩
theorem qF:aO Tryz.prog 194:=⟨_,Tryz.func194,af,af⟩
theorem zI:aO Tryz.prog 195:=⟨_,Tryz.func195,af,af⟩
theorem zH:aO Tryz.prog 207:=⟨_,Tryz.func207,af,af⟩
set_option maxRecDepth 100000 in
set_option maxHeartbeats 8000000 in
theorem qg (c:UInt8) (w:World):Calls Tryz.prog 194 #[.int .u8 (c.toNat:Int)] w fun e w'=>e= .returned (.bool (iC c))∧w=w':=by
 refine aN Tryz.func194 O Tryz.ntmps194 ai (fun a hF=>?_)
 refine wS hF fun K1 hK1=>vX O<|vE hK1<|wT fun K2 hK2=>vX O<|vV O (aG O O O O O)<|vX O fun a hF=>?_
 refine aX (l2:=?lA1) hF [(8,.bool ((ay .geq ((c.toNat:Int)) (97)) && (ay .leq ((c.toNat:Int)) (122)))),(0,.int .u8 (c.toNat:Int)),(2,.bool false)] (fun hJ1=>?elA1) (fun a hF=>?flA1)
 case elA1 =>
  rcases tf (ay .geq ((c.toNat:Int)) (97)) with hg1 | hg1
  ·refine au hF O O O O O (ax hg1) ae (fun a hF=>?_)
   refine au hF O O O O O (ax hg1) ae (fun a hF=>?_)
   refine vR hF<|vV O (aP hg1 rfl rfl rfl) fun a hF=>?_
   exact hJ1 _ ((hF.keep [8,0,2] (F':=[(8,_),(0,_),(2,_)]) O).bool (by rw [hg1]; rfl))
  ·refine aB hF O O O O (aj hg1) ae _ (aZ O O) (fun a hF=>?_)
   refine aB hF O O O O (aj hg1) ae _ (aG O O O O O) (fun a hF=>?_)
   refine vR hF<|vV O (aW hg1 rfl rfl rfl) fun a hF=>?_
   exact hJ1 _ ((hF.keep [8,0,2] (F':=[(8,_),(0,_),(2,_)]) O).bool (by rw [hg1]; rfl))
 refine vR hF<|vX O<|vE hK2 fun a hF=>?_
 apply wp_ret
 refine aK hF Tryz.results194 O ?_
 exact ⟨by rw [xK],rfl⟩
set_option maxRecDepth 100000 in
set_option maxHeartbeats 8000000 in
theorem AX (c:UInt8) (w:World):Calls Tryz.prog 207 #[.int .u8 (c.toNat:Int)] w fun e w'=>e= .returned (.bool (kV c))∧w=w':=by
 refine aN Tryz.func207 O Tryz.ntmps207 ai (fun a hF=>?_)
 refine wS hF fun K1 hK1=>vX O<|vE hK1<|wT fun K2 hK2=>vX O<|vV O (aG O O O O O)<|vX O fun a hF=>?_
 refine aX (l2:=?lA1) hF [(8,.bool ((ay .geq ((c.toNat:Int)) (48)) && (ay .leq ((c.toNat:Int)) (57)))),(0,.int .u8 (c.toNat:Int)),(2,.bool false)] (fun hJ1=>?elA1) (fun a hF=>?flA1)
 case elA1 =>
  rcases tf (ay .geq ((c.toNat:Int)) (48)) with hg1 | hg1
  ·refine au hF O O O O O (ax hg1) ae (fun a hF=>?_)
   refine au hF O O O O O (ax hg1) ae (fun a hF=>?_)
   refine vR hF<|vV O (aP hg1 rfl rfl rfl) fun a hF=>?_
   exact hJ1 _ ((hF.keep [8,0,2] (F':=[(8,_),(0,_),(2,_)]) O).bool (by rw [hg1]; rfl))
  ·refine aB hF O O O O (aj hg1) ae _ (aZ O O) (fun a hF=>?_)
   refine aB hF O O O O (aj hg1) ae _ (aG O O O O O) (fun a hF=>?_)
   refine vR hF<|vV O (aW hg1 rfl rfl rfl) fun a hF=>?_
   exact hJ1 _ ((hF.keep [8,0,2] (F':=[(8,_),(0,_),(2,_)]) O).bool (by rw [hg1]; rfl))
 refine vR hF<|vX O<|vE hK2 fun a hF=>?_
 apply wp_ret
 refine aK hF Tryz.results207 O ?_
 exact ⟨by rw [x8],rfl⟩
set_option maxRecDepth 100000 in
set_option maxHeartbeats 8000000 in
theorem Eg (c:UInt8) (w:World):Calls Tryz.prog 195 #[.int .u8 (c.toNat:Int)] w fun e w'=>e= .returned (.bool (jS c))∧w=w':=by
 refine aN Tryz.func195 O Tryz.ntmps195 ai (fun a hF=>?_)
 refine wS hF fun K1 hK1=>vX O<|vE hK1<|wT fun K2 hK2=>vX O fun a hF=>?_
 refine aI O (fun K hK=>aH hF O ae qF rfl rfl ?_)
 with_reducible refine (qg c _).mono ?_
 rintro e' w3 ⟨rfl,rfl⟩
 refine ⟨_,rfl,fun a hF=>hK _ _ ?_⟩
 refine vR hF<|vX O fun a hF=>?_
 refine aX (l2:=?lA1) hF [(8,.bool ((iC c) || (kV c))),(0,.int .u8 (c.toNat:Int)),(2,.bool false)] (fun hJ1=>?elA1) (fun a hF=>?flA1)
 case elA1 =>
  rcases tf (iC c) with hg1 | hg1
  ·refine aB hF O O O O (aj hg1) ae _ (aZ O O) (fun a hF=>?_)
   refine dU hF O O O (aj hg1) (fun K hK=>aH hF O ae zH rfl rfl ?_)
   with_reducible refine (AX c _).mono ?_
   rintro e' w6 ⟨rfl,rfl⟩
   refine ⟨_,rfl,fun a hF=>hK _ _ ?_⟩
   refine vR hF<|vV O (aP hg1 rfl rfl rfl) fun a hF=>?_
   exact hJ1 _ ((hF.keep [8,0,2] (F':=[(8,_),(0,_),(2,_)]) O).bool (by rw [hg1]; rfl))
  ·refine au hF O O O O O (ax hg1) ae (fun a hF=>?_)
   refine au hF O O O O O (ax hg1) ae (fun a hF=>?_)
   refine vR hF<|vV O (aW hg1 rfl rfl rfl) fun a hF=>?_
   exact hJ1 _ ((hF.keep [8,0,2] (F':=[(8,_),(0,_),(2,_)]) O).bool (by rw [hg1]; rfl))
 refine vR hF<|vX O fun a hF=>?_
 refine aX (l2:=?lA2) hF [(12,.bool (((iC c) || (kV c)) || (ay .eql ((c.toNat:Int)) (95)))),(0,.int .u8 (c.toNat:Int)),(2,.bool false)] (fun hJ2=>?elA2) (fun a hF=>?flA2)
 case elA2 =>
  rcases tf ((iC c) || (kV c)) with hg2 | hg2
  ·refine aB hF O O O O (aj hg2) ae _ (aZ O O) (fun a hF=>?_)
   refine aB hF O O O O (aj hg2) ae _ (aG O O O O O) (fun a hF=>?_)
   refine vR hF<|vV O (aP hg2 rfl rfl rfl) fun a hF=>?_
   exact hJ2 _ ((hF.keep [12,0,2] (F':=[(12,_),(0,_),(2,_)]) O).bool (by rw [hg2]; rfl))
  ·refine au hF O O O O O (ax hg2) ae (fun a hF=>?_)
   refine au hF O O O O O (ax hg2) ae (fun a hF=>?_)
   refine vR hF<|vV O (aW hg2 rfl rfl rfl) fun a hF=>?_
   exact hJ2 _ ((hF.keep [12,0,2] (F':=[(12,_),(0,_),(2,_)]) O).bool (by rw [hg2]; rfl))
 refine vR hF<|vX O<|vE hK2 fun a hF=>?_
 apply wp_ret
 refine aK hF Tryz.results195 O ?_
 exact ⟨by rw [sQ],rfl⟩
set_option maxRecDepth 100000 in
set_option maxHeartbeats 8000000 in
theorem yP {w0:World} {R:List Seg} (s:List UInt8) (w:World) (hA:Hp w0 R w):Calls Tryz.prog 160 #[ak s] w fun e w'=>e= .returned (.bool (fC s))∧w=w':=by
 refine aN Tryz.func160 O Tryz.ntmps160 ai (fun a hF=>?_)
 refine wS hF fun K1 hK1=>vX O<|vE hK1<|wQ fun K2 hK2=>wT fun K3 hK3=>vX O<|vV O (dC (z:=(s.length:Nat)) O JL O O)<|vV O (aG O O O O O)<|vX O fun a hF=>?_
 refine aX (l2:=?lA1) hF [(11,.bool ((ay .eql ((s.length:Nat)) (0)) || (ay .gtr ((s.length:Nat)) (64)))),(0,ak s),(2,.bool false)] (fun hJ1=>?elA1) (fun a hF=>?flA1)
 case elA1 =>
  rcases tf (ay .eql ((s.length:Nat)) (0)) with hg1 | hg1
  ·refine aB hF O O O O (aj hg1) ae _ (aZ O O) (fun a hF=>?_)
   refine aB hF O O O O (aj hg1) ae _ (dC (z:=(s.length:Nat)) O JL O O) (fun a hF=>?_)
   refine aB hF O O O O (aj hg1) ae _ (aG O O O O O) (fun a hF=>?_)
   refine vR hF<|vV O (aP hg1 rfl rfl rfl) fun a hF=>?_
   exact hJ1 _ ((hF.keep [11,0,2] (F':=[(11,_),(0,_),(2,_)]) O).bool (by rw [hg1]; rfl))
  ·refine au hF O O O O O (ax hg1) ae (fun a hF=>?_)
   refine au hF O O O O O (ax hg1) ae (fun a hF=>?_)
   refine au hF O O O O O (ax hg1) ae (fun a hF=>?_)
   refine vR hF<|vV O (aW hg1 rfl rfl rfl) fun a hF=>?_
   exact hJ1 _ ((hF.keep [11,0,2] (F':=[(11,_),(0,_),(2,_)]) O).bool (by rw [hg1]; rfl))
 refine vR hF<|vX O fun a hF=>?_
 refine aX (l2:=?lA2) hF [(17,.bool (((ay .eql ((s.length:Nat)) (0)) || (ay .gtr ((s.length:Nat)) (64))) || (!(iC (bAt s 0))))),(0,ak s),(2,.bool false)] (fun hJ2=>?elA2) (fun a hF=>?flA2)
 case elA2 =>
  rcases tf ((ay .eql ((s.length:Nat)) (0)) || (ay .gtr ((s.length:Nat)) (64))) with hg2 | hg2
  ·refine aB hF O O O O (aj hg2) ae _ (aZ O O) (fun a hF=>?_)
   refine aB hF O O O O (aj hg2) ae _ (ji O JL O O 0 O (uA hg2)) (fun a hF=>?_)
   refine dU hF O O O (aj hg2) (fun K hK=>aH hF O ae qF rfl rfl ?_)
   with_reducible refine (qg (bAt s 0) _).mono ?_
   rintro e' w3 ⟨rfl,rfl⟩
   refine ⟨_,rfl,fun a hF=>hK _ _ ?_⟩
   refine aB hF O O O O (aj hg2) ae _ (cZ O O O) (fun a hF=>?_)
   refine vR hF<|vV O (aP hg2 rfl rfl rfl) fun a hF=>?_
   exact hJ2 _ ((hF.keep [17,0,2] (F':=[(17,_),(0,_),(2,_)]) O).bool (by rw [hg2]; rfl))
  ·refine au hF O O O O O (ax hg2) ae (fun a hF=>?_)
   refine au hF O O O O O (ax hg2) ae (fun a hF=>?_)
   refine au hF O O O O O (ax hg2) ae (fun a hF=>?_)
   refine au hF O O O O O (ax hg2) ae (fun a hF=>?_)
   refine vR hF<|vV O (aW hg2 rfl rfl rfl) fun a hF=>?_
   exact hJ2 _ ((hF.keep [17,0,2] (F':=[(17,_),(0,_),(2,_)]) O).bool (by rw [hg2]; rfl))
 refine aJ<|hK3 _ _ ?_
 rcases tf (((ay .eql ((s.length:Nat)) (0)) || (ay .gtr ((s.length:Nat)) (64))) || (!(iC (bAt s 0)))) with hs | hs
 ·refine az hF O hs ?_
  obtain ⟨hl1,hl2,hl3⟩:=mF hs
  apply wp_skip
  refine hK2 _ _ ?_
  apply wp_seq_k; intro K4 hK4
  refine wS hF fun K5 hK5=>vX O<|vE hK5<|wBk fun a hF=>?_
  refine bz (G:=Nat) (fun i a x=>i≤s.length∧(s.take i).all jS=true∧w=x∧Fr 29 [(3,.int .i64 (i:Int)),(0,ak s)] a∧Hp w0 (R) x) (fun i=>s.length-i) 0 (⟨JE _,rfl,rfl,hF.keep [3,0] rfl,hA⟩) ?_
  clear hF
  rintro i a w5 ⟨hi,hall,hww,hF,hA4⟩
  apply wp_seq_k; intro K6 hK6
  refine wS hF fun K7 hK7=>vX O<|vX O<|vV O (dC (z:=(s.length:Nat)) O JL O O)<|vV O (aG O O O O O)<|vE hK7 fun a hF=>?_
  by_cases hlt:i<s.length
  ·refine aF hF O (dB ag) ?_
   have hat:=kC (l:=s) hlt
   apply wp_skip
   refine hK6 _ _ ?_
   apply wp_seq_k; intro K8 hK8
   apply wp_block
   refine wS hF fun K9 hK9=>vX O<|vX O<|vV O (ji O JL O O i rfl hat) fun a hF=>?_
   refine aI O (fun K hK=>aH hF O ae zI rfl rfl ?_)
   with_reducible refine (Eg (bAt s i) _).mono ?_
   rintro e' w8 ⟨rfl,rfl⟩
   refine ⟨_,rfl,fun a hF=>hK _ _ ?_⟩
   refine vR hF<|vV O (cZ O O O)<|vE hK9 fun a hF=>?_
   rcases tf (jS (bAt s i)) with hw | hw
   ·refine aF hF O (by rw [hw]; rfl) ?_
    refine wS hF fun K10 hK10=>vX O<|vE hK10 fun a hF=>?_
    apply wp_ret
    simp only [Exit.then,Exit.inBlock]
    refine aK hF Tryz.results160 O ?_
    exact ⟨by rw [nP hlt hw],hww⟩
   ·refine az hF O (by rw [hw]; rfl) ?_
    apply wp_skip
    refine hK8 _ _ ?_
    refine wp_region_lit ?_
    refine vR hF<|vX O<|vV O (bK O O O (JF _ ag))<|vX O fun a hF=>?_
    refine aJ ?_
    exact ⟨i+1,ag,ag,lJ hat hall hw,hww,hF.keep [3,0] rfl,hA4⟩
  ·refine az hF O (dw ag) ?_
   obtain rfl:i=s.length:=by omega
   apply wp_exit
   refine hK4 _ _ ?_
   refine wS hF fun K11 hK11=>vX O<|vE hK11 fun a hF=>?_
   apply wp_ret
   refine aK hF Tryz.results160 O ?_
   exact ⟨by rw [mG ⟨hl1,hl2,hl3⟩ hall],hww⟩
 ·refine aF hF O hs ?_
  refine wS hF fun K12 hK12=>vX O<|vE hK12 fun a hF=>?_
  apply wp_ret
  simp only [Exit.then]
  refine aK hF Tryz.results160 O ?_
  exact ⟨by rw [mD hs],rfl⟩
def zY (w0:World):Prop:=Rc w0 [] (some ⟨0,0,none⟩) (reserved.map ak)
set_option maxRecDepth 100000 in
set_option maxHeartbeats 8000000 in
theorem tC {w0:World} {R:List Seg} (s:List UInt8) (w:World) (hT:zY w0) (hA:Hp w0 R w):Calls Tryz.prog 161 #[ak s] w fun e w'=>e= .returned (.bool (reserved.contains s))∧w=w':=by
 obtain ⟨_,_,hb,hc⟩:=hT.ne (i:=0) ae
 injection hb with hb
 injection hb with hb1 hb2
 subst hb1 hb2
 refine aN Tryz.func161 O Tryz.ntmps161 ai (fun a hF=>?_)
 refine wS hF fun K1 hK1=>vX O<|vE hK1<|wQ fun K2 hK2=>wT fun K3 hK3=>vX O<|vE hK3<|wBk fun a hF=>?_
 refine bz (G:=Nat) (fun i a x=>i≤35∧¬ s∈reserved.take i∧w=x∧Fr 13 [(3,.int .i64 (i:Int)),(0,ak s)] a∧Hp w0 (R) x) (fun i=>35-i) 0 (⟨ae,(by simp),rfl,hF.keep [3,0] rfl,hA⟩) ?_
 clear hF
 rintro i a w2 ⟨hi,hno,hww,hF,hA1⟩
 apply wp_seq_k; intro K4 hK4
 refine wS hF fun K5 hK5=>vX O<|vV O (aG O O O O O)<|vE hK5 fun a hF=>?_
 by_cases hlt:i<35
 ·refine aF hF O (dB ag) ?_
  obtain ⟨u,hu⟩:∃ u,reserved[i]? = some u:=⟨_,List.getElem?_eq_getElem (show i<reserved.length from hlt)⟩
  apply wp_skip
  refine hK4 _ _ ?_
  apply wp_seq_k; intro K6 hK6
  apply wp_block
  refine wS hF fun K7 hK7=>vX O<|vV O (DX O JK qQ O O i rfl ag (rfl:(⟨_,0+i*1,none⟩:Addr)=_) (rfl:(none:Option Nat)=none))<|vV O (dN (u:=ak u) rfl (Hq.sub hA1.q (List.nil_subset _)) O hc i (by rw [List.length_map]; exact hlt) ag (by rw [List.getElem?_map,hu]; rfl) rq) fun a hF=>?_
  refine vR hF<|vX O<|vV O (dL O O O O O)<|vE hK7 fun a hF=>?_
  rcases tf (aY .eql u s) with hq | hq
  ·refine az hF O hq ?_
   apply wp_skip
   refine hK6 _ _ ?_
   refine wp_region_lit ?_
   refine vR hF<|vX O<|vV O (bK O O O (JF _ ag))<|vX O fun a hF=>?_
   refine aJ ?_
   exact ⟨i+1,ag,ag,ui hno hu (fun e=>GI hq e.symm),hww,hF.keep [3,0] rfl,hA1⟩
  ·refine aF hF O hq ?_
   refine wS hF fun K8 hK8=>vX O<|vE hK8 fun a hF=>?_
   apply wp_ret
   simp only [Exit.then,Exit.inBlock]
   refine aK hF Tryz.results161 O ?_
   exact ⟨by rw [List.contains_iff_mem.2 (show s∈reserved from (GH hq) ▸ List.mem_of_getElem? hu)],hww⟩
 ·refine az hF O (dw ag) ?_
  obtain rfl:i=35:=by omega
  apply wp_exit
  refine hK2 _ _ ?_
  refine wS hF fun K9 hK9=>vX O<|vE hK9 fun a hF=>?_
  apply wp_ret
  refine aK hF Tryz.results161 O ?_
  exact ⟨by rw [show reserved.contains s=false from Bool.eq_false_iff.2 fun h=>hno (List.contains_iff_mem.1 h)],hww⟩
set_option maxRecDepth 100000 in
set_option maxHeartbeats 8000000 in
theorem tH {w0:World} {R:List Seg} (s:List UInt8) (w:World) (hT:zY w0) (hA:Hp w0 R w):Calls Tryz.prog 114 #[ak s] w fun e w'=>e= .returned (.bool (bU s))∧w=w':=by
 refine aN Tryz.func114 O Tryz.ntmps114 ai (fun a hF=>?_)
 refine wS hF fun K1 hK1=>vX O<|vE hK1<|wT fun K2 hK2=>vX O fun a hF=>?_
 refine aI O (fun K hK=>aH hF O ae zK rfl rfl ?_)
 with_reducible refine (yP s _ hA).mono ?_
 rintro e' w3 ⟨rfl,rfl⟩
 refine ⟨_,rfl,fun a hF=>hK _ _ ?_⟩
 refine vR hF<|vX O fun a hF=>?_
 refine aX (l2:=?lA1) hF [(9,.bool ((fC s) && (!(reserved.contains s)))),(0,ak s),(2,.bool false)] (fun hJ1=>?elA1) (fun a hF=>?flA1)
 case elA1 =>
  rcases tf (fC s) with hg1 | hg1
  ·refine au hF O O O O O (ax hg1) ae (fun a hF=>?_)
   refine au hF O O O O O (ax hg1) ae (fun a hF=>?_)
   refine au hF O O O O O (ax hg1) ae (fun a hF=>?_)
   refine vR hF<|vV O (aP hg1 rfl rfl rfl) fun a hF=>?_
   exact hJ1 _ ((hF.keep [9,0,2] (F':=[(9,_),(0,_),(2,_)]) O).bool (by rw [hg1]; rfl))
  ·refine aB hF O O O O (aj hg1) ae _ (aZ O O) (fun a hF=>?_)
   refine dU hF O O O (aj hg1) (fun K hK=>aH hF O ae zJ rfl rfl ?_)
   with_reducible refine (tC s _ hT hA).mono ?_
   rintro e' w6 ⟨rfl,rfl⟩
   refine ⟨_,rfl,fun a hF=>hK _ _ ?_⟩
   refine aB hF O O O O (aj hg1) ae _ (cZ O O O) (fun a hF=>?_)
   refine vR hF<|vV O (aW hg1 rfl rfl rfl) fun a hF=>?_
   exact hJ1 _ ((hF.keep [9,0,2] (F':=[(9,_),(0,_),(2,_)]) O).bool (by rw [hg1]; rfl))
 refine vR hF<|vX O<|vE hK2 fun a hF=>?_
 apply wp_ret
 refine aK hF Tryz.results114 O ?_
 exact ⟨rfl,rfl⟩
theorem vO (c:UInt8):(!((((ay .geq ((c.toNat:Int)) (97)) && (ay .leq ((c.toNat:Int)) (122))) || ((ay .geq ((c.toNat:Int)) (48)) && (ay .leq ((c.toNat:Int)) (57)))) || (ay .eql ((c.toNat:Int)) (45)))) = !kw c:=by
 unfold kw iC kV
 have h:(c=45)=(c.toNat=45):=by rw [← UInt8.toNat_inj]; rfl
 simp only [h,ay]
 rw [Bool.eq_iff_iff]
 simp only [Bool.not_eq_true',Bool.or_eq_false_iff,Bool.and_eq_false_iff,Bool.and_eq_true,Bool.or_eq_true,decide_eq_true_eq,decide_eq_false_iff_not,beq_eq_false_iff_ne]
 omega
theorem DL {s:List UInt8} (ha:s.all kw=true):((ay .gtr ((s.length:Nat)) (0)) && (ay .leq ((s.length:Nat)) (64)))=di s 64:=by
 unfold di
 rw [ha,Bool.and_true,Bool.eq_iff_iff]
 simp only [ay,Bool.and_eq_true,decide_eq_true_eq]
 omega
set_option maxRecDepth 100000 in
set_option maxHeartbeats 8000000 in
theorem Eh {w0:World} {R:List Seg} (s:List UInt8) (w:World) (hn:s.length≤9223372036854775807) (hA:Hp w0 R w):Calls Tryz.prog 128 #[ak s] w fun e w'=>e= .returned (.bool (di s 64))∧w=w':=by
 refine aN Tryz.func128 O Tryz.ntmps128 ai (fun a hF=>?_)
 refine wS hF fun K1 hK1=>vX O<|vE hK1<|wQ fun K2 hK2=>wT fun K3 hK3=>vX O<|vE hK3<|wBk fun a hF=>?_
 refine bz (G:=Nat) (fun i a x=>i≤s.length∧(s.take i).all kw=true∧w=x∧Fr 41 [(3,.int .i64 (i:Int)),(0,ak s)] a∧Hp w0 (R) x) (fun i=>s.length-i) 0 (⟨JE _,rfl,rfl,hF.keep [3,0] rfl,hA⟩) ?_
 clear hF
 rintro i a w2 ⟨hi,hall,hww,hF,hA1⟩
 apply wp_seq_k; intro K4 hK4
 refine wS hF fun K5 hK5=>vX O<|vX O<|vV O (dC (z:=(s.length:Nat)) O JL O O)<|vV O (aG O O O O O)<|vE hK5 fun a hF=>?_
 by_cases hlt:i<s.length
 ·refine aF hF O (dB ag) ?_
  have hat:=kC (l:=s) hlt
  apply wp_skip
  refine hK4 _ _ ?_
  apply wp_seq_k; intro K6 hK6
  apply wp_block
  refine wS hF fun K7 hK7=>vX O<|vX O<|vV O (ji O JL O O i rfl hat)<|vX O<|vE hK7<|wT fun K8 hK8=>vX O<|vV O (aG O O O O O)<|vX O fun a hF=>?_
  refine aX (l2:=?lA1) hF [(19,.bool ((ay .geq (((bAt s i).toNat:Int)) (97)) && (ay .leq (((bAt s i).toNat:Int)) (122)))),(0,ak s),(3,.int .i64 (i:Int)),(5,.int .i64 (i:Int)),(6,ak s),(7,.int .i64 (s.length:Nat)),(8,.bool (ay .lss ((i:Int)) ((s.length:Nat)))),(11,ak s),(12,.int .i64 (i:Int)),(13,.int .u8 ((bAt s i).toNat:Int)),(4,.int .u8 ((bAt s i).toNat:Int))] (fun hJ1=>?elA1) (fun a hF=>?flA1)
  case elA1 =>
   rcases tf (ay .geq (((bAt s i).toNat:Int)) (97)) with hg1 | hg1
   ·refine au hF O O O O O (ax hg1) ae (fun a hF=>?_)
    refine au hF O O O O O (ax hg1) ae (fun a hF=>?_)
    refine vR hF<|vV O (aP hg1 rfl rfl rfl) fun a hF=>?_
    exact hJ1 _ ((hF.keep [19,0,3,5,6,7,8,11,12,13,4] (F':=[(19,_),(0,_),(3,_),(5,_),(6,_),(7,_),(8,_),(11,_),(12,_),(13,_),(4,_)]) O).bool (by rw [hg1]; rfl))
   ·refine aB hF O O O O (aj hg1) ae _ (aZ O O) (fun a hF=>?_)
    refine aB hF O O O O (aj hg1) ae _ (aG O O O O O) (fun a hF=>?_)
    refine vR hF<|vV O (aW hg1 rfl rfl rfl) fun a hF=>?_
    exact hJ1 _ ((hF.keep [19,0,3,5,6,7,8,11,12,13,4] (F':=[(19,_),(0,_),(3,_),(5,_),(6,_),(7,_),(8,_),(11,_),(12,_),(13,_),(4,_)]) O).bool (by rw [hg1]; rfl))
  refine vR hF<|vX O fun a hF=>?_
  refine aX (l2:=?lA2) hF [(27,.bool (((ay .geq (((bAt s i).toNat:Int)) (97)) && (ay .leq (((bAt s i).toNat:Int)) (122))) || ((ay .geq (((bAt s i).toNat:Int)) (48)) && (ay .leq (((bAt s i).toNat:Int)) (57))))),(0,ak s),(3,.int .i64 (i:Int)),(5,.int .i64 (i:Int)),(6,ak s),(7,.int .i64 (s.length:Nat)),(8,.bool (ay .lss ((i:Int)) ((s.length:Nat)))),(11,ak s),(12,.int .i64 (i:Int)),(13,.int .u8 ((bAt s i).toNat:Int)),(4,.int .u8 ((bAt s i).toNat:Int))] (fun hJ2=>?elA2) (fun a hF=>?flA2)
  case elA2 =>
   rcases tf ((ay .geq (((bAt s i).toNat:Int)) (97)) && (ay .leq (((bAt s i).toNat:Int)) (122))) with hg2 | hg2
   ·refine aB hF O O O O (aj hg2) ae _ (aZ O O) (fun a hF=>?_)
    refine aB hF O O O O (aj hg2) ae _ (aG O O O O O) (fun a hF=>?_)
    refine aB hF O O O O (aj hg2) ae _ (aZ O O) (fun a hF=>?_)
    refine aX (l2:=?lA3) hF [(26,.bool ((ay .geq (((bAt s i).toNat:Int)) (48)) && (ay .leq (((bAt s i).toNat:Int)) (57)))),(0,ak s),(3,.int .i64 (i:Int)),(5,.int .i64 (i:Int)),(6,ak s),(7,.int .i64 (s.length:Nat)),(8,.bool (ay .lss ((i:Int)) ((s.length:Nat)))),(11,ak s),(12,.int .i64 (i:Int)),(13,.int .u8 ((bAt s i).toNat:Int)),(4,.int .u8 ((bAt s i).toNat:Int)),(20,.bool ((ay .geq (((bAt s i).toNat:Int)) (97)) && (ay .leq (((bAt s i).toNat:Int)) (122))))] (fun hJ3=>?elA3) (fun a hF=>?flA3)
    case elA3 =>
     rcases tf (ay .geq (((bAt s i).toNat:Int)) (48)) with hg3 | hg3
     ·refine au hF O O O O O (ax hg3) ae (fun a hF=>?_)
      refine au hF O O O O O (ax hg3) ae (fun a hF=>?_)
      refine aB hF O O O O (aj hg2) ae _ (aP hg3 rfl rfl rfl) (fun a hF=>?_)
      exact hJ3 _ ((hF.keep [26,0,3,5,6,7,8,11,12,13,4,20] (F':=[(26,_),(0,_),(3,_),(5,_),(6,_),(7,_),(8,_),(11,_),(12,_),(13,_),(4,_),(20,_)]) O).bool (by rw [hg3]; rfl))
     ·refine aB hF O O O O (aj hg3) ae _ (aZ O O) (fun a hF=>?_)
      refine aB hF O O O O (aj hg3) ae _ (aG O O O O O) (fun a hF=>?_)
      refine aB hF O O O O (aj hg2) ae _ (aW hg3 rfl rfl rfl) (fun a hF=>?_)
      exact hJ3 _ ((hF.keep [26,0,3,5,6,7,8,11,12,13,4,20] (F':=[(26,_),(0,_),(3,_),(5,_),(6,_),(7,_),(8,_),(11,_),(12,_),(13,_),(4,_),(20,_)]) O).bool (by rw [hg3]; rfl))
    refine vR hF<|vV O (aP hg2 rfl rfl rfl) fun a hF=>?_
    exact hJ2 _ ((hF.keep [27,0,3,5,6,7,8,11,12,13,4] (F':=[(27,_),(0,_),(3,_),(5,_),(6,_),(7,_),(8,_),(11,_),(12,_),(13,_),(4,_)]) O).bool (by rw [hg2]; rfl))
   ·refine au hF O O O O O (ax hg2) ae (fun a hF=>?_)
    refine au hF O O O O O (ax hg2) ae (fun a hF=>?_)
    refine au hF O O O O O (ax hg2) ae (fun a hF=>?_)
    refine aU hF O O O O O ae (fun a hF=>?_)
    refine aU hF O O O O O ae (fun a hF=>?_)
    refine au hF O O O O O (ax hg2) ae (fun a hF=>?_)
    refine vR hF<|vV O (aW hg2 rfl rfl rfl) fun a hF=>?_
    exact hJ2 _ ((hF.keep [27,0,3,5,6,7,8,11,12,13,4] (F':=[(27,_),(0,_),(3,_),(5,_),(6,_),(7,_),(8,_),(11,_),(12,_),(13,_),(4,_)]) O).bool (by rw [hg2]; rfl))
  refine vR hF<|vX O fun a hF=>?_
  refine aX (l2:=?lA4) hF [(31,.bool ((((ay .geq (((bAt s i).toNat:Int)) (97)) && (ay .leq (((bAt s i).toNat:Int)) (122))) || ((ay .geq (((bAt s i).toNat:Int)) (48)) && (ay .leq (((bAt s i).toNat:Int)) (57)))) || (ay .eql (((bAt s i).toNat:Int)) (45)))),(0,ak s),(3,.int .i64 (i:Int)),(5,.int .i64 (i:Int)),(6,ak s),(7,.int .i64 (s.length:Nat)),(8,.bool (ay .lss ((i:Int)) ((s.length:Nat)))),(11,ak s),(12,.int .i64 (i:Int)),(13,.int .u8 ((bAt s i).toNat:Int))] (fun hJ4=>?elA4) (fun a hF=>?flA4)
  case elA4 =>
   rcases tf (((ay .geq (((bAt s i).toNat:Int)) (97)) && (ay .leq (((bAt s i).toNat:Int)) (122))) || ((ay .geq (((bAt s i).toNat:Int)) (48)) && (ay .leq (((bAt s i).toNat:Int)) (57)))) with hg4 | hg4
   ·refine aB hF O O O O (aj hg4) ae _ (aZ O O) (fun a hF=>?_)
    refine aB hF O O O O (aj hg4) ae _ (aG O O O O O) (fun a hF=>?_)
    refine vR hF<|vV O (aP hg4 rfl rfl rfl) fun a hF=>?_
    exact hJ4 _ ((hF.keep [31,0,3,5,6,7,8,11,12,13] (F':=[(31,_),(0,_),(3,_),(5,_),(6,_),(7,_),(8,_),(11,_),(12,_),(13,_)]) O).bool (by rw [hg4]; rfl))
   ·refine au hF O O O O O (ax hg4) ae (fun a hF=>?_)
    refine au hF O O O O O (ax hg4) ae (fun a hF=>?_)
    refine vR hF<|vV O (aW hg4 rfl rfl rfl) fun a hF=>?_
    exact hJ4 _ ((hF.keep [31,0,3,5,6,7,8,11,12,13] (F':=[(31,_),(0,_),(3,_),(5,_),(6,_),(7,_),(8,_),(11,_),(12,_),(13,_)]) O).bool (by rw [hg4]; rfl))
  refine vR hF<|vV O (cZ O O O)<|vE hK8 fun a hF=>?_
  rcases tf (kw (bAt s i)) with hw | hw
  ·refine aF hF O (by rw [vO,hw]; rfl) ?_
   refine wS hF fun K9 hK9=>vX O<|vE hK9 fun a hF=>?_
   apply wp_ret
   simp only [Exit.then,Exit.inBlock]
   refine aK hF Tryz.results128 O ?_
   exact ⟨by rw [show di s 64=false by unfold di; rw [xe hlt hw,Bool.and_false]],hww⟩
  ·refine az hF O (by rw [vO,hw]; rfl) ?_
   apply wp_skip
   refine hK6 _ _ ?_
   refine wp_region_lit ?_
   refine vR hF<|vX O<|vV O (bK O O O (JF _ ag))<|vX O fun a hF=>?_
   refine aJ ?_
   exact ⟨i+1,ag,ag,lJ hat hall hw,hww,hF.keep [3,0] rfl,hA1⟩
 ·refine az hF O (dw ag) ?_
  obtain rfl:i=s.length:=by omega
  rw [List.take_length] at hall
  apply wp_exit
  refine hK2 _ _ ?_
  refine wS hF fun K10 hK10=>vX O<|vV O (dC (z:=(s.length:Nat)) O JL O O)<|vV O (aG O O O O O)<|vX O fun a hF=>?_
  refine aX (l2:=?lA5) hF [(40,.bool ((ay .gtr ((s.length:Nat)) (0)) && (ay .leq ((s.length:Nat)) (64)))),(0,ak s)] (fun hJ5=>?elA5) (fun a hF=>?flA5)
  case elA5 =>
   rcases tf (ay .gtr ((s.length:Nat)) (0)) with hg5 | hg5
   ·refine au hF O O O O O (ax hg5) ae (fun a hF=>?_)
    refine au hF O O O O O (ax hg5) ae (fun a hF=>?_)
    refine au hF O O O O O (ax hg5) ae (fun a hF=>?_)
    refine vR hF<|vV O (aP hg5 rfl rfl rfl) fun a hF=>?_
    exact hJ5 _ ((hF.keep [40,0] (F':=[(40,_),(0,_)]) O).bool (by rw [hg5]; rfl))
   ·refine aB hF O O O O (aj hg5) ae _ (aZ O O) (fun a hF=>?_)
    refine aB hF O O O O (aj hg5) ae _ (dC (z:=(s.length:Nat)) O JL O O) (fun a hF=>?_)
    refine aB hF O O O O (aj hg5) ae _ (aG O O O O O) (fun a hF=>?_)
    refine vR hF<|vV O (aW hg5 rfl rfl rfl) fun a hF=>?_
    exact hJ5 _ ((hF.keep [40,0] (F':=[(40,_),(0,_)]) O).bool (by rw [hg5]; rfl))
  refine vR hF<|vX O<|vE hK10 fun a hF=>?_
  apply wp_ret
  refine aK hF Tryz.results128 O ?_
  exact ⟨by rw [DL hall],hww⟩
set_option maxRecDepth 100000 in
set_option maxHeartbeats 8000000 in
theorem gI {w0:World} {R:List Seg} (n:Int) (kk:Nat) (z:Int) (w:World) (hz:z=kk) (hKK:kk≤8) (hA:Hp w0 R w):Calls Tryz.prog 108 #[.int .i64 n,.int .i64 z] w fun e w'=>∃ v Z,e= .returned v∧Buf 5 1 Z v (be kk (u64 n)).length (dc (be kk (u64 n)))∧Hp w0 (Z::R) w':=by
 refine aN Tryz.func108 O Tryz.ntmps108 ai (fun a hF=>?_)
 refine wS hF fun K1 hK1=>vX O<|vE hK1<|wT fun K2 hK2=>vX O<|vV O (bM O JM JW O (jU _))<|vX O fun a hF=>?_
 refine aI O (fun K hK=>aH hF O ae zL rfl rfl ?_)
 with_reducible refine (yS w0 _ R (u64 n) kk _ z rfl hz hKK hA).mono ?_
 rintro e' w1 ⟨g,rfl,hA2⟩
 refine ⟨_,rfl,fun a hF=>hK _ _ ?_⟩
 replace hA2:Hp w0 ([row g 5 (dc (be kk (u64 n)))]::R) w1:=hA2
 refine vR hF<|vX O<|vE hK2 fun a hF=>?_
 apply wp_ret
 refine aK hF Tryz.results108 O ?_
 exact ⟨_,_,rfl,by rw [bf]; exact Buf.full (by rw [aS,bf,Nat.mul_one]) ag,hA2⟩
theorem qN {n:Nat} (h:n<140737488353900):u64 (n:Int)=n:=by unfold u64; omega
set_option maxRecDepth 100000 in
set_option maxHeartbeats 8000000 in
theorem lg {w0:World} {R:List Seg} (s:List UInt8) (w:World) (hl:s.length<140737488353900) (hA:Hp w0 R w):Calls Tryz.prog 109 #[ak s] w fun e w'=>∃ v Z,e= .returned v∧Buf 5 1 Z v (nameB s).length (dc (nameB s))∧Hp w0 (Z::R) w':=by
 refine aN Tryz.func109 O Tryz.ntmps109 ai (fun a hF=>?_)
 refine wS hF fun K1 hK1=>vX O<|vE hK1<|wT fun K2 hK2=>vX O<|vV O (dC (z:=(s.length:Nat)) O JL O O) fun a hF=>?_
 refine aI O (fun K hK=>aH hF O ae zQ rfl rfl ?_)
 with_reducible refine (gI (s.length:Int) 2 2 _ O ae hA).mono ?_
 rintro e' w1 ⟨v1,Z1,rfl,hO,hA2⟩
 refine ⟨_,rfl,fun a hF=>hK _ _ ?_⟩
 replace hA2:Hp w0 (Z1::R) w1:=hA2
 rw [qN hl] at hO
 refine vR hF<|vX O fun a hF=>?_
 refine aI O (fun K hK=>bF hF O ae rfl hA2 0 O hO JG bW rfl rfl (Src.ofString _ JL ⟨s.toArray⟩) (by rw [bf,show (ByteArray.mk s.toArray).size=s.length from rfl]; omega) ae (fun v2 X2 w3 a hO2 hF hA4=>hK _ _ ?_))
 replace hA4:Hp w0 (X2::R) w3:=hA4
 refine vR hF<|vX O<|vE hK2 fun a hF=>?_
 apply wp_ret
 refine aK hF Tryz.results109 O ?_
 replace hO2:Buf 5 1 X2 v2 ((be 2 s.length).length+s.length) (dc (be 2 s.length)++dc s):=hO2
 exact ⟨v2,X2,rfl,by unfold nameB; rw [List.length_append,bT]; exact hO2,hA4⟩
theorem rD (va:VA):((((ay .eql (va.v.k) (0)) && (ay .eql (va.v.n) (0))) && (aY .eql va.v.t [])) && (ay .eql (va.v.s.length) (0)))=va.v.nothing:=by
 unfold Val.nothing
 rw [Bool.eq_iff_iff]
 simp only [ay,aY,Bool.and_eq_true,decide_eq_true_eq,beq_iff_eq,Int.natCast_eq_zero,List.length_eq_zero_iff,and_assoc]
set_option maxRecDepth 100000 in
set_option maxHeartbeats 8000000 in
theorem ww {w0:World} {R:List Seg} {G:List Seg} (va:VA) (w:World) (hV:va.Ok w0 G) (hA:Hp w0 R w):Calls Tryz.prog 127 #[.agg va.cells.toArray] w fun e w'=>e= .returned (.bool va.v.nothing)∧Hp w0 R w':=by
 have hn:=hV.n
 refine aN Tryz.func127 O Tryz.ntmps127 ai (fun a hF=>?_)
 refine wp_seq_k fun K1 hK1=>wp_region_lit ?_
 refine aI O (fun K hK=>dE (cs:=[.int .i64 va.v.k,.int .i64 va.v.n,ak va.v.t,.slice va.sA va.v.s.length va.sC]) hF O ae rfl hA O (fun b1 w2 a hb1 hF hA3=>hK _ _ ?_))
 refine vR hF<|vX O<|vE hK1<|wT fun K2 hK2=>vV O (yf 0 O JP O ik O)<|vV O (aV O hA3.q O 0 O O iq)<|vV O (aG O O O O O)<|vX O fun a hF=>?_
 refine aX (l2:=?lA1) hF [(10,.bool ((ay .eql (va.v.k) (0)) && (ay .eql (va.v.n) (0)))),(0,.agg ([.int .i64 va.v.k,.int .i64 va.v.n,ak va.v.t,.slice va.sA va.v.s.length va.sC]).toArray),(1,.pointer (some ⟨b1,0,none⟩)),(2,.bool false)] (fun hJ1=>?elA1) (fun a hF=>?flA1)
 case elA1 =>
  rcases tf (ay .eql (va.v.k) (0)) with hg1 | hg1
  ·refine au hF O O O O O (ax hg1) ae (fun a hF=>?_)
   refine au hF O O O O O (ax hg1) ae (fun a hF=>?_)
   refine au hF O O O O O (ax hg1) ae (fun a hF=>?_)
   refine vR hF<|vV O (aP hg1 rfl rfl rfl) fun a hF=>?_
   exact hJ1 _ ((hF.keep [10,0,1,2] (F':=[(10,_),(0,_),(1,_),(2,_)]) O).bool (by rw [hg1]; rfl))
  ·refine aB hF O O O O (aj hg1) ae _ (yf 1 O JP O gU O) (fun a hF=>?_)
   refine aB hF O O O O (aj hg1) ae _ (aV O hA3.q O 0 O O jW) (fun a hF=>?_)
   refine aB hF O O O O (aj hg1) ae _ (aG O O O O O) (fun a hF=>?_)
   refine vR hF<|vV O (aW hg1 rfl rfl rfl) fun a hF=>?_
   exact hJ1 _ ((hF.keep [10,0,1,2] (F':=[(10,_),(0,_),(1,_),(2,_)]) O).bool (by rw [hg1]; rfl))
 refine vR hF<|vX O fun a hF=>?_
 refine aX (l2:=?lA2) hF [(15,.bool (((ay .eql (va.v.k) (0)) && (ay .eql (va.v.n) (0))) && (aY .eql va.v.t []))),(0,.agg ([.int .i64 va.v.k,.int .i64 va.v.n,ak va.v.t,.slice va.sA va.v.s.length va.sC]).toArray),(1,.pointer (some ⟨b1,0,none⟩)),(2,.bool false)] (fun hJ2=>?elA2) (fun a hF=>?flA2)
 case elA2 =>
  rcases tf ((ay .eql (va.v.k) (0)) && (ay .eql (va.v.n) (0))) with hg2 | hg2
  ·refine au hF O O O O O (ax hg2) ae (fun a hF=>?_)
   refine au hF O O O O O (ax hg2) ae (fun a hF=>?_)
   refine au hF O O O O O (ax hg2) ae (fun a hF=>?_)
   refine vR hF<|vV O (aP hg2 rfl rfl rfl) fun a hF=>?_
   exact hJ2 _ ((hF.keep [15,0,1,2] (F':=[(15,_),(0,_),(1,_),(2,_)]) O).bool (by rw [hg2]; rfl))
  ·refine aB hF O O O O (aj hg2) ae _ (yf 2 O JP O qQ O) (fun a hF=>?_)
   refine aB hF O O O O (aj hg2) ae _ (aV O hA3.q O 0 O O rq) (fun a hF=>?_)
   refine aB hF O O O O (aj hg2) ae _ (dL O O O O O) (fun a hF=>?_)
   refine vR hF<|vV O (aW hg2 rfl rfl rfl) fun a hF=>?_
   exact hJ2 _ ((hF.keep [15,0,1,2] (F':=[(15,_),(0,_),(1,_),(2,_)]) O).bool (by rw [hg2]; rfl))
 refine vR hF<|vX O fun a hF=>?_
 refine aX (l2:=?lA3) hF [(21,.bool ((((ay .eql (va.v.k) (0)) && (ay .eql (va.v.n) (0))) && (aY .eql va.v.t [])) && (ay .eql (va.v.s.length) (0)))),(0,.agg ([.int .i64 va.v.k,.int .i64 va.v.n,ak va.v.t,.slice va.sA va.v.s.length va.sC]).toArray),(2,.bool false)] (fun hJ3=>?elA3) (fun a hF=>?flA3)
 case elA3 =>
  rcases tf (((ay .eql (va.v.k) (0)) && (ay .eql (va.v.n) (0))) && (aY .eql va.v.t [])) with hg3 | hg3
  ·refine au hF O O O O O (ax hg3) ae (fun a hF=>?_)
   refine au hF O O O O O (ax hg3) ae (fun a hF=>?_)
   refine au hF O O O O O (ax hg3) ae (fun a hF=>?_)
   refine au hF O O O O O (ax hg3) ae (fun a hF=>?_)
   refine vR hF<|vV O (aP hg3 rfl rfl rfl) fun a hF=>?_
   exact hJ3 _ ((hF.keep [21,0,2] (F':=[(21,_),(0,_),(2,_)]) O).bool (by rw [hg3]; rfl))
  ·refine aB hF O O O O (aj hg3) ae _ (yf 3 O JP O kE O) (fun a hF=>?_)
   refine aB hF O O O O (aj hg3) ae _ (aV O hA3.q O 0 O O kG) (fun a hF=>?_)
   refine aB hF O O O O (aj hg3) ae _ (aT O JD O O) (fun a hF=>?_)
   refine aB hF O O O O (aj hg3) ae _ (aG O O O O O) (fun a hF=>?_)
   refine vR hF<|vV O (aW hg3 rfl rfl rfl) fun a hF=>?_
   exact hJ3 _ ((hF.keep [21,0,2] (F':=[(21,_),(0,_),(2,_)]) O).bool (by rw [hg3]; rfl))
 refine vR hF<|vX O<|vE hK2 fun a hF=>?_
 apply wp_ret
 refine aK hF Tryz.results127 O ?_
 have hA4:Hp w0 (R) w2:=hpS 1 [] [0] hA3 rfl
 exact ⟨by rw [rD],hA4⟩
theorem xJ (a b:List UInt8):aY .lss a b = !aY .geq a b:=by
 unfold aY
 cases h:Op.bytesLess a b <;> simp
theorem Ei {va:VA} (h:((ay .lss (va.v.k) (0)) || (ay .gtr (va.v.k) (5)))=true):va.v.right=8:=by
 have hf:va.v.formed=false:=by
  simp only [ay,Bool.or_eq_true,decide_eq_true_eq] at h
  unfold Val.formed
  split
  ·rfl
  rw [if_neg ag,if_neg ag,if_neg ag,if_neg ag]
 exact if_pos hf
theorem Em {va:VA} (h:((((ay .neq (va.v.n) (0)) && (((ay .eql (va.v.k) (0)) || (ay .eql (va.v.k) (3))) || (ay .eql (va.v.k) (5)))) || ((aY .neq va.v.t []) && (ay .neq (va.v.k) (3)))) || ((ay .gtr (va.v.s.length) (0)) && (ay .neq (va.v.k) (5))))=true):va.v.right=8:=by
 have hf:va.v.formed=false:=by
  simp only [ay,aY,Bool.or_eq_true,Bool.and_eq_true,decide_eq_true_eq,Bool.not_eq_true',beq_eq_false_iff_ne,beq_iff_eq,bne_iff_ne,ne_eq] at h
  unfold Val.formed
  by_cases h0:(va.v.k≠3∧va.v.t≠[])∨(va.v.k≠5∧va.v.s≠[])
  ·rw [if_pos h0]
  rw [if_neg h0]
  have h1:va.v.n≠0∧(va.v.k=0∨va.v.k=3∨va.v.k=5):=by
   rcases h with (h | h) | h
   ·exact ⟨h.1,ag⟩
   ·exact absurd (.inl ⟨h.2,h.1⟩) h0
   ·exact absurd (.inr ⟨h.2,fun e=>by rw [e] at h; simp at h⟩) h0
  obtain ⟨h1,h2⟩:=h1
  rw [if_neg ag,if_neg ag]
  split
  ·simp [h1]
  ·rw [if_pos ag]; simp [h1]
 exact if_pos hf
theorem En {va:VA} (h:(((ay .eql (va.v.k) (2)) && (ay .neq (va.v.n) (0))) && (ay .neq (va.v.n) (1)))=true):va.v.right=8:=by
 have hf:va.v.formed=false:=by
  simp only [ay,Bool.and_eq_true,beq_iff_eq,bne_iff_ne,ne_eq] at h
  unfold Val.formed
  split
  ·rfl
  rw [if_neg ag,if_pos ag]
  simp; omega
 exact if_pos hf
theorem Ej {va:VA} (h1:((ay .lss (va.v.k) (0)) || (ay .gtr (va.v.k) (5)))=false) (h2:((((ay .neq (va.v.n) (0)) && (((ay .eql (va.v.k) (0)) || (ay .eql (va.v.k) (3))) || (ay .eql (va.v.k) (5)))) || ((aY .neq va.v.t []) && (ay .neq (va.v.k) (3)))) || ((ay .gtr (va.v.s.length) (0)) && (ay .neq (va.v.k) (5))))=false) (h3:(((ay .eql (va.v.k) (2)) && (ay .neq (va.v.n) (0))) && (ay .neq (va.v.n) (1)))=false):(0≤va.v.k∧va.v.k≤5)∧((va.v.k=3∨va.v.t=[])∧(va.v.k=5∨va.v.s=[]))∧((va.v.n=0∨va.v.k=1∨va.v.k=2∨va.v.k=4)∧(va.v.k=2→va.v.n=0∨va.v.n=1)):=by
 simp only [ay,aY,Bool.or_eq_false_iff,Bool.and_eq_false_iff,decide_eq_false_iff_not,Bool.not_eq_false',beq_iff_eq,beq_eq_false_iff_ne,bne_eq_false_iff_eq,ne_eq] at h1 h2 h3
 obtain ⟨⟨q1,q2⟩,q3⟩:=h2
 refine ⟨ ag,⟨?_,?_⟩,ag,fun e=>by omega⟩
 ·rcases q2 with q | q
  ·exact .inr q
  ·exact .inl ag
 ·rcases q3 with q | q
  ·right
   cases hs:va.v.s with
   | nil=>rfl
   | cons x l=>rw [hs] at q; simp at q
  ·exact .inl ag
theorem GM {va:VA} (hk:0≤va.v.k∧va.v.k≤5) (hb:(va.v.k=3∨va.v.t=[])∧(va.v.k=5∨va.v.s=[])) (hr:dK va.v.s va.v.s.length=false):va.v.right=8:=by
 have hf:va.v.formed=false:=by
  unfold Val.formed
  split
  ·rfl
  have h5:va.v.k=5:=hb.2.resolve_right fun e=>by rw [e] at hr; exact absurd hr ae
  rw [if_neg ag,if_neg ag,if_neg ag,if_pos h5,hr]
  rfl
 exact if_pos hf
theorem yR {va:VA} (hk:0≤va.v.k∧va.v.k≤5) (hb:(va.v.k=3∨va.v.t=[])∧(va.v.k=5∨va.v.s=[])) (hc:(va.v.n=0∨va.v.k=1∨va.v.k=2∨va.v.k=4)∧(va.v.k=2→va.v.n=0∨va.v.n=1)) (hr:dK va.v.s va.v.s.length=true):va.v.formed=true:=by
 unfold Val.formed
 rw [if_neg (by
  rintro (⟨h1,h2⟩ | ⟨h1,h2⟩)
  ·rcases hb.1 with h | h
   ·exact h1 h
   ·exact h2 h
  ·rcases hb.2 with h | h
   ·exact h1 h
   ·exact h2 h)]
 split
 ·rfl
 split
 ·rename_i h; exact decide_eq_true (hc.2 h)
 split
 ·exact decide_eq_true ag
 split
 ·rw [hr,decide_eq_true (show va.v.n=0 by omega)]; rfl
 ·omega
theorem nZ {va:VA} (h:va.v.formed=true):¬ va.v.formed=false:=by rw [h]; decide
theorem GU {va:VA} (hf:va.v.formed=true) (h:((ay .eql (va.v.k) (4)) && ((ay .lss (va.v.n) (0)) || (ay .gtr (va.v.n) (4611686018427387904))))=true):va.v.right=111:=by
 simp only [ay,Bool.or_eq_true,Bool.and_eq_true,decide_eq_true_eq,beq_iff_eq] at h
 exact (if_neg (nZ hf)).trans (if_pos ⟨h.1,ag⟩)
theorem xw {va:VA} (h:((ay .eql (va.v.k) (4)) && ((ay .lss (va.v.n) (0)) || (ay .gtr (va.v.n) (4611686018427387904))))=false):¬ (va.v.k=4∧¬ (0≤va.v.n∧va.v.n≤4611686018427387904)):=by
 simp only [ay,Bool.or_eq_false_iff,Bool.and_eq_false_iff,decide_eq_false_iff_not,beq_eq_false_iff_ne,ne_eq] at h
 omega
theorem GR {va:VA} (hf:va.v.formed=true) (h4:((ay .eql (va.v.k) (4)) && ((ay .lss (va.v.n) (0)) || (ay .gtr (va.v.n) (4611686018427387904))))=false) (h:(ay .gtr ((va.v.t.length:Nat)) (1024))=true):va.v.right=113:=by
 simp only [ay,decide_eq_true_eq] at h
 exact (if_neg (nZ hf)).trans ((if_neg (xw h4)).trans (if_pos (.inl ag)))
theorem Eo {va:VA} {q:List UInt8} {i:Nat} (hf:va.v.formed=true) (h4:((ay .eql (va.v.k) (4)) && ((ay .lss (va.v.n) (0)) || (ay .gtr (va.v.n) (4611686018427387904))))=false) (_h5:(ay .gtr ((va.v.t.length:Nat)) (1024))=false) (hp:va.v.s[i]? = some q) (hw:ed q=true):va.v.right=113 :=
 (if_neg (nZ hf)).trans ((if_neg (xw h4)).trans (if_pos (.inr (List.any_eq_true.2 ⟨q,List.mem_of_getElem? hp,hw⟩))))
theorem Gm {va:VA} (h5:(ay .gtr ((va.v.t.length:Nat)) (1024))=false) (hall:va.v.s.any ed=false):¬ (1024<va.v.t.length∨va.v.s.any ed=true):=by
 simp only [ay,decide_eq_false_iff_not] at h5
 rw [hall]
 rintro (h | h)
 ·omega
 ·exact absurd h ae
theorem GN {va:VA} (hf:va.v.formed=true) (h4:((ay .eql (va.v.k) (4)) && ((ay .lss (va.v.n) (0)) || (ay .gtr (va.v.n) (4611686018427387904))))=false) (h5:(ay .gtr ((va.v.t.length:Nat)) (1024))=false) (hall:va.v.s.any ed=false) (h6:(ay .gtr (va.v.s.length) (64))=true):va.v.right=114:=by
 simp only [ay,decide_eq_true_eq] at h6
 exact (if_neg (nZ hf)).trans ((if_neg (xw h4)).trans ((if_neg (Gm h5 hall)).trans (if_pos ag)))
theorem Jl {va:VA} (hf:va.v.formed=true) (h4:((ay .eql (va.v.k) (4)) && ((ay .lss (va.v.n) (0)) || (ay .gtr (va.v.n) (4611686018427387904))))=false) (h5:(ay .gtr ((va.v.t.length:Nat)) (1024))=false) (hall:va.v.s.any ed=false) (h6:(ay .gtr (va.v.s.length) (64))=false):va.v.right=0:=by
 simp only [ay,decide_eq_false_iff_not] at h6
 exact (if_neg (nZ hf)).trans ((if_neg (xw h4)).trans ((if_neg (Gm h5 hall)).trans (if_neg ag)))
theorem Ht {q:List UInt8} (h:ed q=true):ay .gtr (q.length:Nat) 1024=true:=by
 unfold ed at h
 have:=of_decide_eq_true h
 exact fQ ag
theorem Hu {q:List UInt8} (h:ed q=false):ay .gtr (q.length:Nat) 1024=false:=by
 unfold ed at h
 have:=of_decide_eq_false h
 exact fV ag
set_option maxRecDepth 100000 in
set_option maxHeartbeats 8000000 in
theorem AU {w0:World} {R:List Seg} {G:List Seg} (va:VA) (w:World) (hV:va.Ok w0 G) (hG:G⊆R) (hA:Hp w0 R w):Calls Tryz.prog 107 #[.agg va.cells.toArray] w fun e w'=>e= .returned (.int .i64 (va.v.right:Nat))∧Hp w0 R w':=by
 have hn:=hV.n
 refine aN Tryz.func107 O Tryz.ntmps107 ai (fun a hF=>?_)
 refine wp_seq_k fun K1 hK1=>wp_region_lit ?_
 refine aI O (fun K hK=>dE (cs:=[.int .i64 va.v.k,.int .i64 va.v.n,ak va.v.t,.slice va.sA va.v.s.length va.sC]) hF O ae rfl hA O (fun b1 w2 a hb1 hF hA3=>hK _ _ ?_))
 refine vR hF<|vX O<|vE hK1<|wQ fun K2 hK2=>wT fun K3 hK3=>vV O (yf 0 O JP O ik O)<|vV O (aV O hA3.q O 0 O O iq)<|vV O (aG O O O O O)<|vX O fun a hF=>?_
 refine aX (l2:=?lA1) hF [(12,.bool ((ay .lss (va.v.k) (0)) || (ay .gtr (va.v.k) (5)))),(0,.agg ([.int .i64 va.v.k,.int .i64 va.v.n,ak va.v.t,.slice va.sA va.v.s.length va.sC]).toArray),(1,.pointer (some ⟨b1,0,none⟩)),(2,.int .i64 0)] (fun hJ1=>?elA1) (fun a hF=>?flA1)
 case elA1 =>
  rcases tf (ay .lss (va.v.k) (0)) with hg1 | hg1
  ·refine aB hF O O O O (aj hg1) ae _ (yf 0 O JP O ik O) (fun a hF=>?_)
   refine aB hF O O O O (aj hg1) ae _ (aV O hA3.q O 0 O O iq) (fun a hF=>?_)
   refine aB hF O O O O (aj hg1) ae _ (aG O O O O O) (fun a hF=>?_)
   refine vR hF<|vV O (aP hg1 rfl rfl rfl) fun a hF=>?_
   exact hJ1 _ ((hF.keep [12,0,1,2] (F':=[(12,_),(0,_),(1,_),(2,_)]) O).bool (by rw [hg1]; rfl))
  ·refine au hF O O O O O (ax hg1) ae (fun a hF=>?_)
   refine au hF O O O O O (ax hg1) ae (fun a hF=>?_)
   refine au hF O O O O O (ax hg1) ae (fun a hF=>?_)
   refine vR hF<|vV O (aW hg1 rfl rfl rfl) fun a hF=>?_
   exact hJ1 _ ((hF.keep [12,0,1,2] (F':=[(12,_),(0,_),(1,_),(2,_)]) O).bool (by rw [hg1]; rfl))
 refine aJ<|hK3 _ _ ?_
 rcases tf ((ay .lss (va.v.k) (0)) || (ay .gtr (va.v.k) (5))) with h1 | h1
 ·refine az hF O h1 ?_
  apply wp_skip
  refine hK2 _ _ ?_
  apply wp_seq_k; intro K4 hK4
  refine wS hF fun K5 hK5=>vV O (yf 1 O JP O gU O)<|vV O (aV O hA3.q O 0 O O jW)<|vV O (aG O O O O O)<|vX O fun a hF=>?_
  refine aX (l2:=?lA2) hF [(30,.bool ((ay .neq (va.v.n) (0)) && (((ay .eql (va.v.k) (0)) || (ay .eql (va.v.k) (3))) || (ay .eql (va.v.k) (5))))),(0,.agg ([.int .i64 va.v.k,.int .i64 va.v.n,ak va.v.t,.slice va.sA va.v.s.length va.sC]).toArray),(1,.pointer (some ⟨b1,0,none⟩)),(2,.int .i64 0),(12,.bool ((ay .lss (va.v.k) (0)) || (ay .gtr (va.v.k) (5))))] (fun hJ2=>?elA2) (fun a hF=>?flA2)
  case elA2 =>
   rcases tf (ay .neq (va.v.n) (0)) with hg2 | hg2
   ·refine au hF O O O O O (ax hg2) ae (fun a hF=>?_)
    refine au hF O O O O O (ax hg2) ae (fun a hF=>?_)
    refine au hF O O O O O (ax hg2) ae (fun a hF=>?_)
    refine au hF O O O O O (ax hg2) ae (fun a hF=>?_)
    refine aU hF O O O O O ae (fun a hF=>?_)
    refine aU hF O O O O O ae (fun a hF=>?_)
    refine aU hF O O O O O ae (fun a hF=>?_)
    refine au hF O O O O O (ax hg2) ae (fun a hF=>?_)
    refine au hF O O O O O (ax hg2) ae (fun a hF=>?_)
    refine aU hF O O O O O ae (fun a hF=>?_)
    refine aU hF O O O O O ae (fun a hF=>?_)
    refine aU hF O O O O O ae (fun a hF=>?_)
    refine au hF O O O O O (ax hg2) ae (fun a hF=>?_)
    refine vR hF<|vV O (aP hg2 rfl rfl rfl) fun a hF=>?_
    exact hJ2 _ ((hF.keep [30,0,1,2,12] (F':=[(30,_),(0,_),(1,_),(2,_),(12,_)]) O).bool (by rw [hg2]; rfl))
   ·refine aB hF O O O O (aj hg2) ae _ (yf 0 O JP O ik O) (fun a hF=>?_)
    refine aB hF O O O O (aj hg2) ae _ (aV O hA3.q O 0 O O iq) (fun a hF=>?_)
    refine aB hF O O O O (aj hg2) ae _ (aG O O O O O) (fun a hF=>?_)
    refine aB hF O O O O (aj hg2) ae _ (aZ O O) (fun a hF=>?_)
    refine aX (l2:=?lA3) hF [(24,.bool ((ay .eql (va.v.k) (0)) || (ay .eql (va.v.k) (3)))),(0,.agg ([.int .i64 va.v.k,.int .i64 va.v.n,ak va.v.t,.slice va.sA va.v.s.length va.sC]).toArray),(1,.pointer (some ⟨b1,0,none⟩)),(2,.int .i64 0),(12,.bool ((ay .lss (va.v.k) (0)) || (ay .gtr (va.v.k) (5)))),(16,.bool (ay .neq (va.v.n) (0)))] (fun hJ3=>?elA3) (fun a hF=>?flA3)
    case elA3 =>
     rcases tf (ay .eql (va.v.k) (0)) with hg3 | hg3
     ·refine aB hF O O O O (aj hg3) ae _ (yf 0 O JP O ik O) (fun a hF=>?_)
      refine aB hF O O O O (aj hg3) ae _ (aV O hA3.q O 0 O O iq) (fun a hF=>?_)
      refine aB hF O O O O (aj hg3) ae _ (aG O O O O O) (fun a hF=>?_)
      refine aB hF O O O O (aj hg2) ae _ (aP hg3 rfl rfl rfl) (fun a hF=>?_)
      exact hJ3 _ ((hF.keep [24,0,1,2,12,16] (F':=[(24,_),(0,_),(1,_),(2,_),(12,_),(16,_)]) O).bool (by rw [hg3]; rfl))
     ·refine au hF O O O O O (ax hg3) ae (fun a hF=>?_)
      refine au hF O O O O O (ax hg3) ae (fun a hF=>?_)
      refine au hF O O O O O (ax hg3) ae (fun a hF=>?_)
      refine aB hF O O O O (aj hg2) ae _ (aW hg3 rfl rfl rfl) (fun a hF=>?_)
      exact hJ3 _ ((hF.keep [24,0,1,2,12,16] (F':=[(24,_),(0,_),(1,_),(2,_),(12,_),(16,_)]) O).bool (by rw [hg3]; rfl))
    refine aB hF O O O O (aj hg2) ae _ (aZ O O) (fun a hF=>?_)
    refine aX (l2:=?lA4) hF [(29,.bool (((ay .eql (va.v.k) (0)) || (ay .eql (va.v.k) (3))) || (ay .eql (va.v.k) (5)))),(0,.agg ([.int .i64 va.v.k,.int .i64 va.v.n,ak va.v.t,.slice va.sA va.v.s.length va.sC]).toArray),(1,.pointer (some ⟨b1,0,none⟩)),(2,.int .i64 0),(12,.bool ((ay .lss (va.v.k) (0)) || (ay .gtr (va.v.k) (5)))),(16,.bool (ay .neq (va.v.n) (0)))] (fun hJ4=>?elA4) (fun a hF=>?flA4)
    case elA4 =>
     rcases tf ((ay .eql (va.v.k) (0)) || (ay .eql (va.v.k) (3))) with hg4 | hg4
     ·refine aB hF O O O O (aj hg4) ae _ (yf 0 O JP O ik O) (fun a hF=>?_)
      refine aB hF O O O O (aj hg4) ae _ (aV O hA3.q O 0 O O iq) (fun a hF=>?_)
      refine aB hF O O O O (aj hg4) ae _ (aG O O O O O) (fun a hF=>?_)
      refine aB hF O O O O (aj hg2) ae _ (aP hg4 rfl rfl rfl) (fun a hF=>?_)
      exact hJ4 _ ((hF.keep [29,0,1,2,12,16] (F':=[(29,_),(0,_),(1,_),(2,_),(12,_),(16,_)]) O).bool (by rw [hg4]; rfl))
     ·refine au hF O O O O O (ax hg4) ae (fun a hF=>?_)
      refine au hF O O O O O (ax hg4) ae (fun a hF=>?_)
      refine au hF O O O O O (ax hg4) ae (fun a hF=>?_)
      refine aB hF O O O O (aj hg2) ae _ (aW hg4 rfl rfl rfl) (fun a hF=>?_)
      exact hJ4 _ ((hF.keep [29,0,1,2,12,16] (F':=[(29,_),(0,_),(1,_),(2,_),(12,_),(16,_)]) O).bool (by rw [hg4]; rfl))
    refine vR hF<|vV O (aW hg2 rfl rfl rfl) fun a hF=>?_
    exact hJ2 _ ((hF.keep [30,0,1,2,12] (F':=[(30,_),(0,_),(1,_),(2,_),(12,_)]) O).bool (by rw [hg2]; rfl))
  refine vR hF<|vX O fun a hF=>?_
  refine aX (l2:=?lA5) hF [(40,.bool (((ay .neq (va.v.n) (0)) && (((ay .eql (va.v.k) (0)) || (ay .eql (va.v.k) (3))) || (ay .eql (va.v.k) (5)))) || ((aY .neq va.v.t []) && (ay .neq (va.v.k) (3))))),(0,.agg ([.int .i64 va.v.k,.int .i64 va.v.n,ak va.v.t,.slice va.sA va.v.s.length va.sC]).toArray),(1,.pointer (some ⟨b1,0,none⟩)),(2,.int .i64 0),(12,.bool ((ay .lss (va.v.k) (0)) || (ay .gtr (va.v.k) (5))))] (fun hJ5=>?elA5) (fun a hF=>?flA5)
  case elA5 =>
   rcases tf ((ay .neq (va.v.n) (0)) && (((ay .eql (va.v.k) (0)) || (ay .eql (va.v.k) (3))) || (ay .eql (va.v.k) (5)))) with hg5 | hg5
   ·refine aB hF O O O O (aj hg5) ae _ (yf 2 O JP O qQ O) (fun a hF=>?_)
    refine aB hF O O O O (aj hg5) ae _ (aV O hA3.q O 0 O O rq) (fun a hF=>?_)
    refine aB hF O O O O (aj hg5) ae _ (dL O O O O O) (fun a hF=>?_)
    refine aB hF O O O O (aj hg5) ae _ (aZ O O) (fun a hF=>?_)
    refine aX (l2:=?lA6) hF [(39,.bool ((aY .neq va.v.t []) && (ay .neq (va.v.k) (3)))),(0,.agg ([.int .i64 va.v.k,.int .i64 va.v.n,ak va.v.t,.slice va.sA va.v.s.length va.sC]).toArray),(1,.pointer (some ⟨b1,0,none⟩)),(2,.int .i64 0),(12,.bool ((ay .lss (va.v.k) (0)) || (ay .gtr (va.v.k) (5)))),(31,.bool ((ay .neq (va.v.n) (0)) && (((ay .eql (va.v.k) (0)) || (ay .eql (va.v.k) (3))) || (ay .eql (va.v.k) (5)))))] (fun hJ6=>?elA6) (fun a hF=>?flA6)
    case elA6 =>
     rcases tf (aY .neq va.v.t []) with hg6 | hg6
     ·refine au hF O O O O O (ax hg6) ae (fun a hF=>?_)
      refine au hF O O O O O (ax hg6) ae (fun a hF=>?_)
      refine au hF O O O O O (ax hg6) ae (fun a hF=>?_)
      refine aB hF O O O O (aj hg5) ae _ (aP hg6 rfl rfl rfl) (fun a hF=>?_)
      exact hJ6 _ ((hF.keep [39,0,1,2,12,31] (F':=[(39,_),(0,_),(1,_),(2,_),(12,_),(31,_)]) O).bool (by rw [hg6]; rfl))
     ·refine aB hF O O O O (aj hg6) ae _ (yf 0 O JP O ik O) (fun a hF=>?_)
      refine aB hF O O O O (aj hg6) ae _ (aV O hA3.q O 0 O O iq) (fun a hF=>?_)
      refine aB hF O O O O (aj hg6) ae _ (aG O O O O O) (fun a hF=>?_)
      refine aB hF O O O O (aj hg5) ae _ (aW hg6 rfl rfl rfl) (fun a hF=>?_)
      exact hJ6 _ ((hF.keep [39,0,1,2,12,31] (F':=[(39,_),(0,_),(1,_),(2,_),(12,_),(31,_)]) O).bool (by rw [hg6]; rfl))
    refine vR hF<|vV O (aP hg5 rfl rfl rfl) fun a hF=>?_
    exact hJ5 _ ((hF.keep [40,0,1,2,12] (F':=[(40,_),(0,_),(1,_),(2,_),(12,_)]) O).bool (by rw [hg5]; rfl))
   ·refine au hF O O O O O (ax hg5) ae (fun a hF=>?_)
    refine au hF O O O O O (ax hg5) ae (fun a hF=>?_)
    refine au hF O O O O O (ax hg5) ae (fun a hF=>?_)
    refine au hF O O O O O (ax hg5) ae (fun a hF=>?_)
    refine aU hF O O O O O ae (fun a hF=>?_)
    refine aU hF O O O O O ae (fun a hF=>?_)
    refine aU hF O O O O O ae (fun a hF=>?_)
    refine au hF O O O O O (ax hg5) ae (fun a hF=>?_)
    refine vR hF<|vV O (aW hg5 rfl rfl rfl) fun a hF=>?_
    exact hJ5 _ ((hF.keep [40,0,1,2,12] (F':=[(40,_),(0,_),(1,_),(2,_),(12,_)]) O).bool (by rw [hg5]; rfl))
  refine vR hF<|vX O fun a hF=>?_
  refine aX (l2:=?lA7) hF [(51,.bool ((((ay .neq (va.v.n) (0)) && (((ay .eql (va.v.k) (0)) || (ay .eql (va.v.k) (3))) || (ay .eql (va.v.k) (5)))) || ((aY .neq va.v.t []) && (ay .neq (va.v.k) (3)))) || ((ay .gtr (va.v.s.length) (0)) && (ay .neq (va.v.k) (5))))),(0,.agg ([.int .i64 va.v.k,.int .i64 va.v.n,ak va.v.t,.slice va.sA va.v.s.length va.sC]).toArray),(1,.pointer (some ⟨b1,0,none⟩)),(2,.int .i64 0),(12,.bool ((ay .lss (va.v.k) (0)) || (ay .gtr (va.v.k) (5))))] (fun hJ7=>?elA7) (fun a hF=>?flA7)
  case elA7 =>
   rcases tf (((ay .neq (va.v.n) (0)) && (((ay .eql (va.v.k) (0)) || (ay .eql (va.v.k) (3))) || (ay .eql (va.v.k) (5)))) || ((aY .neq va.v.t []) && (ay .neq (va.v.k) (3)))) with hg7 | hg7
   ·refine aB hF O O O O (aj hg7) ae _ (yf 3 O JP O kE O) (fun a hF=>?_)
    refine aB hF O O O O (aj hg7) ae _ (aV O hA3.q O 0 O O kG) (fun a hF=>?_)
    refine aB hF O O O O (aj hg7) ae _ (aT O JD O O) (fun a hF=>?_)
    refine aB hF O O O O (aj hg7) ae _ (aG O O O O O) (fun a hF=>?_)
    refine aB hF O O O O (aj hg7) ae _ (aZ O O) (fun a hF=>?_)
    refine aX (l2:=?lA8) hF [(50,.bool ((ay .gtr (va.v.s.length) (0)) && (ay .neq (va.v.k) (5)))),(0,.agg ([.int .i64 va.v.k,.int .i64 va.v.n,ak va.v.t,.slice va.sA va.v.s.length va.sC]).toArray),(1,.pointer (some ⟨b1,0,none⟩)),(2,.int .i64 0),(12,.bool ((ay .lss (va.v.k) (0)) || (ay .gtr (va.v.k) (5)))),(41,.bool (((ay .neq (va.v.n) (0)) && (((ay .eql (va.v.k) (0)) || (ay .eql (va.v.k) (3))) || (ay .eql (va.v.k) (5)))) || ((aY .neq va.v.t []) && (ay .neq (va.v.k) (3)))))] (fun hJ8=>?elA8) (fun a hF=>?flA8)
    case elA8 =>
     rcases tf (ay .gtr (va.v.s.length) (0)) with hg8 | hg8
     ·refine au hF O O O O O (ax hg8) ae (fun a hF=>?_)
      refine au hF O O O O O (ax hg8) ae (fun a hF=>?_)
      refine au hF O O O O O (ax hg8) ae (fun a hF=>?_)
      refine aB hF O O O O (aj hg7) ae _ (aP hg8 rfl rfl rfl) (fun a hF=>?_)
      exact hJ8 _ ((hF.keep [50,0,1,2,12,41] (F':=[(50,_),(0,_),(1,_),(2,_),(12,_),(41,_)]) O).bool (by rw [hg8]; rfl))
     ·refine aB hF O O O O (aj hg8) ae _ (yf 0 O JP O ik O) (fun a hF=>?_)
      refine aB hF O O O O (aj hg8) ae _ (aV O hA3.q O 0 O O iq) (fun a hF=>?_)
      refine aB hF O O O O (aj hg8) ae _ (aG O O O O O) (fun a hF=>?_)
      refine aB hF O O O O (aj hg7) ae _ (aW hg8 rfl rfl rfl) (fun a hF=>?_)
      exact hJ8 _ ((hF.keep [50,0,1,2,12,41] (F':=[(50,_),(0,_),(1,_),(2,_),(12,_),(41,_)]) O).bool (by rw [hg8]; rfl))
    refine vR hF<|vV O (aP hg7 rfl rfl rfl) fun a hF=>?_
    exact hJ7 _ ((hF.keep [51,0,1,2,12] (F':=[(51,_),(0,_),(1,_),(2,_),(12,_)]) O).bool (by rw [hg7]; rfl))
   ·refine au hF O O O O O (ax hg7) ae (fun a hF=>?_)
    refine au hF O O O O O (ax hg7) ae (fun a hF=>?_)
    refine au hF O O O O O (ax hg7) ae (fun a hF=>?_)
    refine au hF O O O O O (ax hg7) ae (fun a hF=>?_)
    refine au hF O O O O O (ax hg7) ae (fun a hF=>?_)
    refine aU hF O O O O O ae (fun a hF=>?_)
    refine aU hF O O O O O ae (fun a hF=>?_)
    refine aU hF O O O O O ae (fun a hF=>?_)
    refine au hF O O O O O (ax hg7) ae (fun a hF=>?_)
    refine vR hF<|vV O (aW hg7 rfl rfl rfl) fun a hF=>?_
    exact hJ7 _ ((hF.keep [51,0,1,2,12] (F':=[(51,_),(0,_),(1,_),(2,_),(12,_)]) O).bool (by rw [hg7]; rfl))
  refine aJ<|hK5 _ _ ?_
  rcases tf ((((ay .neq (va.v.n) (0)) && (((ay .eql (va.v.k) (0)) || (ay .eql (va.v.k) (3))) || (ay .eql (va.v.k) (5)))) || ((aY .neq va.v.t []) && (ay .neq (va.v.k) (3)))) || ((ay .gtr (va.v.s.length) (0)) && (ay .neq (va.v.k) (5)))) with h2 | h2
  ·refine az hF O h2 ?_
   apply wp_skip
   refine hK4 _ _ ?_
   apply wp_seq_k; intro K6 hK6
   refine wS hF fun K7 hK7=>vV O (yf 0 O JP O ik O)<|vV O (aV O hA3.q O 0 O O iq)<|vV O (aG O O O O O)<|vX O fun a hF=>?_
   refine aX (l2:=?lA9) hF [(59,.bool ((ay .eql (va.v.k) (2)) && (ay .neq (va.v.n) (0)))),(0,.agg ([.int .i64 va.v.k,.int .i64 va.v.n,ak va.v.t,.slice va.sA va.v.s.length va.sC]).toArray),(1,.pointer (some ⟨b1,0,none⟩)),(2,.int .i64 0),(12,.bool ((ay .lss (va.v.k) (0)) || (ay .gtr (va.v.k) (5)))),(51,.bool ((((ay .neq (va.v.n) (0)) && (((ay .eql (va.v.k) (0)) || (ay .eql (va.v.k) (3))) || (ay .eql (va.v.k) (5)))) || ((aY .neq va.v.t []) && (ay .neq (va.v.k) (3)))) || ((ay .gtr (va.v.s.length) (0)) && (ay .neq (va.v.k) (5)))))] (fun hJ9=>?elA9) (fun a hF=>?flA9)
   case elA9 =>
    rcases tf (ay .eql (va.v.k) (2)) with hg9 | hg9
    ·refine au hF O O O O O (ax hg9) ae (fun a hF=>?_)
     refine au hF O O O O O (ax hg9) ae (fun a hF=>?_)
     refine au hF O O O O O (ax hg9) ae (fun a hF=>?_)
     refine vR hF<|vV O (aP hg9 rfl rfl rfl) fun a hF=>?_
     exact hJ9 _ ((hF.keep [59,0,1,2,12,51] (F':=[(59,_),(0,_),(1,_),(2,_),(12,_),(51,_)]) O).bool (by rw [hg9]; rfl))
    ·refine aB hF O O O O (aj hg9) ae _ (yf 1 O JP O gU O) (fun a hF=>?_)
     refine aB hF O O O O (aj hg9) ae _ (aV O hA3.q O 0 O O jW) (fun a hF=>?_)
     refine aB hF O O O O (aj hg9) ae _ (aG O O O O O) (fun a hF=>?_)
     refine vR hF<|vV O (aW hg9 rfl rfl rfl) fun a hF=>?_
     exact hJ9 _ ((hF.keep [59,0,1,2,12,51] (F':=[(59,_),(0,_),(1,_),(2,_),(12,_),(51,_)]) O).bool (by rw [hg9]; rfl))
   refine vR hF<|vX O fun a hF=>?_
   refine aX (l2:=?lA10) hF [(64,.bool (((ay .eql (va.v.k) (2)) && (ay .neq (va.v.n) (0))) && (ay .neq (va.v.n) (1)))),(0,.agg ([.int .i64 va.v.k,.int .i64 va.v.n,ak va.v.t,.slice va.sA va.v.s.length va.sC]).toArray),(1,.pointer (some ⟨b1,0,none⟩)),(2,.int .i64 0),(12,.bool ((ay .lss (va.v.k) (0)) || (ay .gtr (va.v.k) (5)))),(51,.bool ((((ay .neq (va.v.n) (0)) && (((ay .eql (va.v.k) (0)) || (ay .eql (va.v.k) (3))) || (ay .eql (va.v.k) (5)))) || ((aY .neq va.v.t []) && (ay .neq (va.v.k) (3)))) || ((ay .gtr (va.v.s.length) (0)) && (ay .neq (va.v.k) (5)))))] (fun hJ10=>?elA10) (fun a hF=>?flA10)
   case elA10 =>
    rcases tf ((ay .eql (va.v.k) (2)) && (ay .neq (va.v.n) (0))) with hg10 | hg10
    ·refine au hF O O O O O (ax hg10) ae (fun a hF=>?_)
     refine au hF O O O O O (ax hg10) ae (fun a hF=>?_)
     refine au hF O O O O O (ax hg10) ae (fun a hF=>?_)
     refine vR hF<|vV O (aP hg10 rfl rfl rfl) fun a hF=>?_
     exact hJ10 _ ((hF.keep [64,0,1,2,12,51] (F':=[(64,_),(0,_),(1,_),(2,_),(12,_),(51,_)]) O).bool (by rw [hg10]; rfl))
    ·refine aB hF O O O O (aj hg10) ae _ (yf 1 O JP O gU O) (fun a hF=>?_)
     refine aB hF O O O O (aj hg10) ae _ (aV O hA3.q O 0 O O jW) (fun a hF=>?_)
     refine aB hF O O O O (aj hg10) ae _ (aG O O O O O) (fun a hF=>?_)
     refine vR hF<|vV O (aW hg10 rfl rfl rfl) fun a hF=>?_
     exact hJ10 _ ((hF.keep [64,0,1,2,12,51] (F':=[(64,_),(0,_),(1,_),(2,_),(12,_),(51,_)]) O).bool (by rw [hg10]; rfl))
   refine aJ<|hK7 _ _ ?_
   rcases tf (((ay .eql (va.v.k) (2)) && (ay .neq (va.v.n) (0))) && (ay .neq (va.v.n) (1))) with h3 | h3
   ·refine az hF O h3 ?_
    obtain ⟨hk,hb,hcn⟩:=Ej h1 h2 h3
    apply wp_skip
    refine hK6 _ _ ?_
    apply wp_seq_k; intro K8 hK8
    refine wS hF fun K9 hK9=>vX O<|vE hK9<|wBk fun a hF=>?_
    refine bz (G:=Nat) (fun i a x=>1≤i∧(i=1∨i≤va.v.s.length)∧dK va.v.s i=true∧Fr 120 [(3,.int .i64 (i:Int)),(1,.pointer (some ⟨b1,0,none⟩))] a∧Hp w0 ([row b1 25 [.int .i64 va.v.k,.int .i64 va.v.n,ak va.v.t,.slice va.sA va.v.s.length va.sC]]::R) x) (fun i=>va.v.s.length-i) 1 (⟨JH _,.inl rfl,rfl,hF.keep [3,1] rfl,hA3⟩) ?_
    clear hF
    rintro i a w5 ⟨hi1,hi,hr,hF,hA4⟩
    apply wp_seq_k; intro K10 hK10
    refine wS hF fun K11 hK11=>vX O<|vV O (yf 3 O JP O kE O)<|vV O (aV O hA4.q O 0 O O kG)<|vV O (aT O JD O O)<|vV O (aG O O O O O)<|vE hK11 fun a hF=>?_
    by_cases hlt:i<va.v.s.length
    ·refine aF hF O (dB ag) ?_
     obtain ⟨q,hp⟩:∃ q,va.v.s[i]? = some q:=⟨_,List.getElem?_eq_getElem hlt⟩
     obtain ⟨q0,hp0⟩:∃ q,va.v.s[i-1]? = some q:=⟨_,List.getElem?_eq_getElem ag⟩
     obtain ⟨b,o,hsA,hc⟩:=hV.rc.ne (i:=i) (by rw [List.length_map]; exact hlt)
     rw [hsA] at hA4
     apply wp_skip
     refine hK10 _ _ ?_
     apply wp_seq_k; intro K12 hK12
     apply wp_block
     apply wp_seq_k; intro K13 hK13
     refine bi 12 [12] [0,1,2,3,4,5,6,7,8,9,10,11,12] _ af af (Hq.drew hA4.q) ?_
     have hA6:=Hl.drew hA4
     refine pR hF<|pW O O (fun _=>yf 3 O JP O kE O)<|pV O O (fun x hx=>aV O hx O 0 O O kG)<|pX O O<|pW O O (fun _=>eY O O O (JF _ ag))<|pW O O (fun _=>bI O JD qQ O O (i-1) ag ag (ad2 _ _ _))<|pV O O (fun x hx=>dN (u:=ak q0) rfl (Hq.sub hx (List.Subset.trans hG ((bD (dD))))) O hc (i-1) (by rw [List.length_map]; omega) rfl (by rw [List.getElem?_map,hp0]; rfl) rq) fun a hF=>?_
     refine pR hF<|pW O O (fun _=>yf 3 O JP O kE O)<|pV O O (fun x hx=>aV O hx O 0 O O kG)<|pX O O<|pW O O (fun _=>bI O JD qQ O O i rfl ag (ad2 _ _ _))<|pV O O (fun x hx=>dN (u:=ak q) rfl (Hq.sub hx (List.Subset.trans hG ((bD (dD))))) O hc i (by rw [List.length_map]; omega) rfl (by rw [List.getElem?_map,hp]; rfl) rq) fun a hF=>?_
     refine pR hF<|pW O O (fun _=>dL O O O O O) fun a hF=>?_
     refine fB hF O O O O ae _ (cZ O O O) (fun h=>absurd h ae) (fun a hF=>?_)
     refine bY ?_
     refine hK13 _ _ ?_
     rcases tf (aY .geq q0 q) with hge | hge
     ·refine az hF O (by rw [xJ,hge]; rfl) ?_
      apply wp_skip
      refine hK12 _ _ ?_
      refine wp_region_lit ?_
      refine vR hF<|vX O<|vV O (bK O O O (JF _ ag))<|vX O fun a hF=>?_
      refine aJ ?_
      rw [← hsA] at hA6
      exact ⟨i+1,ag,ag,.inr ag,tN hi1 hp0 hp hr hge,hF.keep [3,1] rfl,hA6⟩
     ·refine aF hF O (by rw [xJ,hge]; rfl) ?_
      refine wS hF fun K14 hK14=>vX O<|vE hK14 fun a hF=>?_
      apply wp_ret
      simp only [Exit.then,Exit.inBlock]
      refine aK hF Tryz.results107 O ?_
      have hA7:Hp w0 (R) w5.drew:=hpS 1 [] [0] hA6 rfl
      exact ⟨by rw [GM hk hb (tV hi1 hlt hp0 hp hge)]; rfl,hA7⟩
    ·refine az hF O (dw ag) ?_
     have hfo:=yR hk hb hcn (qi hi1 hi hlt hr)
     apply wp_exit
     refine hK8 _ _ ?_
     apply wp_seq_k; intro K15 hK15
     refine wS hF fun K16 hK16=>vV O (yf 0 O JP O ik O)<|vV O (aV O hA4.q O 0 O O iq)<|vV O (aG O O O O O)<|vX O fun a hF=>?_
     refine aX (l2:=?lA11) hF [(97,.bool ((ay .eql (va.v.k) (4)) && ((ay .lss (va.v.n) (0)) || (ay .gtr (va.v.n) (4611686018427387904))))),(1,.pointer (some ⟨b1,0,none⟩)),(3,.int .i64 (i:Int)),(65,.int .i64 (i:Int)),(66,.pointer (some ⟨b1,3,none⟩)),(67,.slice va.sA va.v.s.length va.sC),(68,.int .i64 va.v.s.length),(69,.bool (ay .lss ((i:Int)) (va.v.s.length)))] (fun hJ11=>?elA11) (fun a hF=>?flA11)
     case elA11 =>
      rcases tf (ay .eql (va.v.k) (4)) with hg11 | hg11
      ·refine au hF O O O O O (ax hg11) ae (fun a hF=>?_)
       refine au hF O O O O O (ax hg11) ae (fun a hF=>?_)
       refine au hF O O O O O (ax hg11) ae (fun a hF=>?_)
       refine au hF O O O O O (ax hg11) ae (fun a hF=>?_)
       refine aU hF O O O O O ae (fun a hF=>?_)
       refine aU hF O O O O O ae (fun a hF=>?_)
       refine aU hF O O O O O ae (fun a hF=>?_)
       refine au hF O O O O O (ax hg11) ae (fun a hF=>?_)
       refine vR hF<|vV O (aP hg11 rfl rfl rfl) fun a hF=>?_
       exact hJ11 _ ((hF.keep [97,1,3,65,66,67,68,69] (F':=[(97,_),(1,_),(3,_),(65,_),(66,_),(67,_),(68,_),(69,_)]) O).bool (by rw [hg11]; rfl))
      ·refine aB hF O O O O (aj hg11) ae _ (yf 1 O JP O gU O) (fun a hF=>?_)
       refine aB hF O O O O (aj hg11) ae _ (aV O hA4.q O 0 O O jW) (fun a hF=>?_)
       refine aB hF O O O O (aj hg11) ae _ (aG O O O O O) (fun a hF=>?_)
       refine aB hF O O O O (aj hg11) ae _ (aZ O O) (fun a hF=>?_)
       refine aX (l2:=?lA12) hF [(96,.bool ((ay .lss (va.v.n) (0)) || (ay .gtr (va.v.n) (4611686018427387904)))),(1,.pointer (some ⟨b1,0,none⟩)),(3,.int .i64 (i:Int)),(65,.int .i64 (i:Int)),(66,.pointer (some ⟨b1,3,none⟩)),(67,.slice va.sA va.v.s.length va.sC),(68,.int .i64 va.v.s.length),(69,.bool (ay .lss ((i:Int)) (va.v.s.length))),(88,.bool (ay .eql (va.v.k) (4)))] (fun hJ12=>?elA12) (fun a hF=>?flA12)
       case elA12 =>
        rcases tf (ay .lss (va.v.n) (0)) with hg12 | hg12
        ·refine aB hF O O O O (aj hg12) ae _ (yf 1 O JP O gU O) (fun a hF=>?_)
         refine aB hF O O O O (aj hg12) ae _ (aV O hA4.q O 0 O O jW) (fun a hF=>?_)
         refine aB hF O O O O (aj hg12) ae _ (aG O O O O O) (fun a hF=>?_)
         refine aB hF O O O O (aj hg11) ae _ (aP hg12 rfl rfl rfl) (fun a hF=>?_)
         exact hJ12 _ ((hF.keep [96,1,3,65,66,67,68,69,88] (F':=[(96,_),(1,_),(3,_),(65,_),(66,_),(67,_),(68,_),(69,_),(88,_)]) O).bool (by rw [hg12]; rfl))
        ·refine au hF O O O O O (ax hg12) ae (fun a hF=>?_)
         refine au hF O O O O O (ax hg12) ae (fun a hF=>?_)
         refine au hF O O O O O (ax hg12) ae (fun a hF=>?_)
         refine aB hF O O O O (aj hg11) ae _ (aW hg12 rfl rfl rfl) (fun a hF=>?_)
         exact hJ12 _ ((hF.keep [96,1,3,65,66,67,68,69,88] (F':=[(96,_),(1,_),(3,_),(65,_),(66,_),(67,_),(68,_),(69,_),(88,_)]) O).bool (by rw [hg12]; rfl))
       refine vR hF<|vV O (aW hg11 rfl rfl rfl) fun a hF=>?_
       exact hJ11 _ ((hF.keep [97,1,3,65,66,67,68,69] (F':=[(97,_),(1,_),(3,_),(65,_),(66,_),(67,_),(68,_),(69,_)]) O).bool (by rw [hg11]; rfl))
     refine aJ<|hK16 _ _ ?_
     rcases tf ((ay .eql (va.v.k) (4)) && ((ay .lss (va.v.n) (0)) || (ay .gtr (va.v.n) (4611686018427387904)))) with h4 | h4
     ·refine az hF O h4 ?_
      apply wp_skip
      refine hK15 _ _ ?_
      apply wp_seq_k; intro K17 hK17
      refine wS hF fun K18 hK18=>vV O (yf 2 O JP O qQ O)<|vV O (aV O hA4.q O 0 O O rq)<|vV O (dC (z:=(va.v.t.length:Nat)) O JL O O)<|vV O (aG O O O O O)<|vE hK18 fun a hF=>?_
      rcases tf (ay .gtr ((va.v.t.length:Nat)) (1024)) with h5 | h5
      ·refine az hF O h5 ?_
       apply wp_skip
       refine hK17 _ _ ?_
       apply wp_seq_k; intro K19 hK19
       refine wS hF fun K20 hK20=>vX O<|vE hK20<|wBk fun a hF=>?_
       refine bz (G:=Nat) (fun i a x=>i≤va.v.s.length∧(va.v.s.take i).any ed=false∧Fr 120 [(4,.int .i64 (i:Int)),(1,.pointer (some ⟨b1,0,none⟩))] a∧Hp w0 ([row b1 25 [.int .i64 va.v.k,.int .i64 va.v.n,ak va.v.t,.slice va.sA va.v.s.length va.sC]]::R) x) (fun i=>va.v.s.length-i) 0 (⟨JE _,rfl,hF.keep [4,1] rfl,hA4⟩) ?_
       clear hF
       rintro i a w9 ⟨hi,hall,hF,hA8⟩
       apply wp_seq_k; intro K21 hK21
       refine wS hF fun K22 hK22=>vX O<|vV O (yf 3 O JP O kE O)<|vV O (aV O hA8.q O 0 O O kG)<|vV O (aT O JD O O)<|vV O (aG O O O O O)<|vE hK22 fun a hF=>?_
       by_cases hlt:i<va.v.s.length
       ·refine aF hF O (dB ag) ?_
        obtain ⟨q,hp⟩:∃ q,va.v.s[i]? = some q:=⟨_,List.getElem?_eq_getElem hlt⟩
        obtain ⟨b,o,hsA,hc⟩:=hV.rc.ne (i:=i) (by rw [List.length_map]; exact hlt)
        rw [hsA] at hA8
        apply wp_skip
        refine hK21 _ _ ?_
        apply wp_seq_k; intro K23 hK23
        apply wp_block
        refine wS hF fun K24 hK24=>vV O (yf 3 O JP O kE O)<|vV O (aV O hA8.q O 0 O O kG)<|vX O<|vV O (bI O JD qQ O O i rfl hlt (ad2 _ _ _))<|vV O (dN (u:=ak q) rfl (Hq.sub hA8.q (List.Subset.trans hG ((bD (dD))))) O hc i (by rw [List.length_map]; exact hlt) rfl (by rw [List.getElem?_map,hp]; rfl) rq) fun a hF=>?_
        refine vR hF<|vV O (dC (z:=(q.length:Nat)) O JL O O)<|vV O (aG O O O O O)<|vE hK24 fun a hF=>?_
        rcases tf (ed q) with hw | hw
        ·refine az hF O (Hu hw) ?_
         apply wp_skip
         refine hK23 _ _ ?_
         refine wp_region_lit ?_
         refine vR hF<|vX O<|vV O (bK O O O (JF _ ag))<|vX O fun a hF=>?_
         refine aJ ?_
         rw [← hsA] at hA8
         exact ⟨i+1,ag,ag,vU hp hall hw,hF.keep [4,1] rfl,hA8⟩
        ·refine aF hF O (Ht hw) ?_
         refine wS hF fun K25 hK25=>vX O<|vE hK25 fun a hF=>?_
         apply wp_ret
         simp only [Exit.then,Exit.inBlock]
         refine aK hF Tryz.results107 O ?_
         have hA10:Hp w0 (R) w9:=hpS 1 [] [0] hA8 rfl
         exact ⟨by rw [Eo hfo h4 h5 hp hw]; rfl,hA10⟩
       ·refine az hF O (dw ag) ?_
        obtain rfl:i=va.v.s.length:=by omega
        rw [List.take_length] at hall
        apply wp_exit
        refine hK19 _ _ ?_
        apply wp_seq_k; intro K26 hK26
        refine wS hF fun K27 hK27=>vV O (yf 3 O JP O kE O)<|vV O (aV O hA8.q O 0 O O kG)<|vV O (aT O JD O O)<|vV O (aG O O O O O)<|vE hK27 fun a hF=>?_
        rcases tf (ay .gtr (va.v.s.length) (64)) with h6 | h6
        ·refine az hF O h6 ?_
         apply wp_skip
         refine hK26 _ _ ?_
         refine wS hF fun K28 hK28=>vX O<|vE hK28 fun a hF=>?_
         apply wp_ret
         refine aK hF Tryz.results107 O ?_
         have hA11:Hp w0 (R) w9:=hpS 1 [] [0] hA8 rfl
         exact ⟨by rw [Jl hfo h4 h5 hall h6]; rfl,hA11⟩
        ·refine aF hF O h6 ?_
         refine wS hF fun K29 hK29=>vX O<|vE hK29 fun a hF=>?_
         apply wp_ret
         simp only [Exit.then]
         refine aK hF Tryz.results107 O ?_
         have hA12:Hp w0 (R) w9:=hpS 1 [] [0] hA8 rfl
         exact ⟨by rw [GN hfo h4 h5 hall h6]; rfl,hA12⟩
      ·refine aF hF O h5 ?_
       refine wS hF fun K30 hK30=>vX O<|vE hK30 fun a hF=>?_
       apply wp_ret
       simp only [Exit.then]
       refine aK hF Tryz.results107 O ?_
       have hA13:Hp w0 (R) w5:=hpS 1 [] [0] hA4 rfl
       exact ⟨by rw [GR hfo h4 h5]; rfl,hA13⟩
     ·refine aF hF O h4 ?_
      refine wS hF fun K31 hK31=>vX O<|vE hK31 fun a hF=>?_
      apply wp_ret
      simp only [Exit.then]
      refine aK hF Tryz.results107 O ?_
      have hA14:Hp w0 (R) w5:=hpS 1 [] [0] hA4 rfl
      exact ⟨by rw [GU hfo h4]; rfl,hA14⟩
   ·refine aF hF O h3 ?_
    refine wS hF fun K32 hK32=>vX O<|vE hK32 fun a hF=>?_
    apply wp_ret
    simp only [Exit.then]
    refine aK hF Tryz.results107 O ?_
    have hA15:Hp w0 (R) w2:=hpS 1 [] [0] hA3 rfl
    exact ⟨by rw [En h3]; rfl,hA15⟩
  ·refine aF hF O h2 ?_
   refine wS hF fun K33 hK33=>vX O<|vE hK33 fun a hF=>?_
   apply wp_ret
   simp only [Exit.then]
   refine aK hF Tryz.results107 O ?_
   have hA16:Hp w0 (R) w2:=hpS 1 [] [0] hA3 rfl
   exact ⟨by rw [Em h2]; rfl,hA16⟩
 ·refine aF hF O h1 ?_
  refine wS hF fun K34 hK34=>vX O<|vE hK34 fun a hF=>?_
  apply wp_ret
  simp only [Exit.then]
  refine aK hF Tryz.results107 O ?_
  have hA17:Hp w0 (R) w2:=hpS 1 [] [0] hA3 rfl
  exact ⟨by rw [Ei h1]; rfl,hA17⟩
end Go.Proofs.YtepbmdlgdaedpaaGreatDoor
