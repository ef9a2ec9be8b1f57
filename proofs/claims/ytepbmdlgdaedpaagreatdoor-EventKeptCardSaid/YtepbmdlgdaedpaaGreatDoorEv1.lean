/- Names: letters, words, what a name is. -/
import Derived.Test.YtepbmdlgdaedpaaGreatDoorOctetW
import Derived.Test.YtepbmdlgdaedpaaGreatDoorEvL
/- Names: letters, words, what a name is. -/
namespace Go.Proofs.YtepbmdlgdaedpaaGreatDoor
open Go.RowKit Go.Dk
theorem DV:isRow Tryz.prog 240 35=true:=af
theorem F5:aK Tryz.prog 143:=⟨_,Tryz.func143,af,af⟩
theorem FZ:aK Tryz.prog 144:=⟨_,Tryz.func144,af,af⟩
theorem yB:aK Tryz.prog 170:=⟨_,Tryz.func170,af,af⟩
theorem FM:aK Tryz.prog 171:=⟨_,Tryz.func171,af,af⟩
theorem FK:aK Tryz.prog 172:=⟨_,Tryz.func172,af,af⟩
theorem FH:aK Tryz.prog 201:=⟨_,Tryz.func201,af,af⟩
theorem Ic (c:UInt8):((aI .geq (c.toNat:Int) (97)) && (aI .leq (c.toNat:Int) (122)))=lw c:=by
 unfold lw aI
 rw [Bool.eq_iff_iff]
 simp only [Bool.and_eq_true,decide_eq_true_eq]
 omega
set_option maxRecDepth 100000 in
set_option maxHeartbeats 1000000 in
theorem uo (c:UInt8) (w:World):Calls Tryz.prog 170 #[.int .u8 (c.toNat:Int)] w fun e w'=>e= .returned (.bool (lw c))∧w=w':=by
 refine aP Tryz.func170 O Tryz.ntmps170 ai (fun a hF=>?_)
 refine wS hF fun K1 hK1=>vX O<|vE hK1<|wT fun K2 hK2=>vX O<|vV O (aF O O O O O)<|vX O fun a hF=>?_
 refine bK (l2:=?lA1) hF [(8,.bool ((aI .geq ((c.toNat:Int)) (97)) && (aI .leq ((c.toNat:Int)) (122)))),(0,.int .u8 (c.toNat:Int)),(2,.bool false)] (fun hJ1=>?elA1) (fun a hF=>?flA1)
 case elA1 =>
  rcases tf (aI .geq ((c.toNat:Int)) (97)) with hg1 | hg1
  ·refine az hF O O O O O (aB hg1) ae (fun a hF=>?_)
   refine az hF O O O O O (aB hg1) ae (fun a hF=>?_)
   refine vR hF<|vV O (bu hg1 rfl rfl rfl) fun a hF=>?_
   exact hJ1 _ ((hF.keep [8,0,2] (F':=[(8,_),(0,_),(2,_)]) O).bool (by rw [hg1]; rfl))
  ·refine aJ hF O O O O (ak hg1) ae _ (aV O O) (fun a hF=>?_)
   refine aJ hF O O O O (ak hg1) ae _ (aF O O O O O) (fun a hF=>?_)
   refine vR hF<|vV O (bF hg1 rfl rfl rfl) fun a hF=>?_
   exact hJ1 _ ((hF.keep [8,0,2] (F':=[(8,_),(0,_),(2,_)]) O).bool (by rw [hg1]; rfl))
 refine vR hF<|vX O<|vE hK2 fun a hF=>?_
 apply wp_ret
 refine aO hF Tryz.results170 O ?_
 exact ⟨by rw [Ic],rfl⟩
theorem IM (c:UInt8):((aI .geq (c.toNat:Int) (48)) && (aI .leq (c.toNat:Int) (57)))=sU c:=by
 unfold sU aI
 rw [Bool.eq_iff_iff]
 simp only [Bool.and_eq_true,decide_eq_true_eq]
 omega
set_option maxRecDepth 100000 in
set_option maxHeartbeats 1000000 in
theorem E8 (c:UInt8) (w:World):Calls Tryz.prog 201 #[.int .u8 (c.toNat:Int)] w fun e w'=>e= .returned (.bool (sU c))∧w=w':=by
 refine aP Tryz.func201 O Tryz.ntmps201 ai (fun a hF=>?_)
 refine wS hF fun K1 hK1=>vX O<|vE hK1<|wT fun K2 hK2=>vX O<|vV O (aF O O O O O)<|vX O fun a hF=>?_
 refine bK (l2:=?lA1) hF [(8,.bool ((aI .geq ((c.toNat:Int)) (48)) && (aI .leq ((c.toNat:Int)) (57)))),(0,.int .u8 (c.toNat:Int)),(2,.bool false)] (fun hJ1=>?elA1) (fun a hF=>?flA1)
 case elA1 =>
  rcases tf (aI .geq ((c.toNat:Int)) (48)) with hg1 | hg1
  ·refine az hF O O O O O (aB hg1) ae (fun a hF=>?_)
   refine az hF O O O O O (aB hg1) ae (fun a hF=>?_)
   refine vR hF<|vV O (bu hg1 rfl rfl rfl) fun a hF=>?_
   exact hJ1 _ ((hF.keep [8,0,2] (F':=[(8,_),(0,_),(2,_)]) O).bool (by rw [hg1]; rfl))
  ·refine aJ hF O O O O (ak hg1) ae _ (aV O O) (fun a hF=>?_)
   refine aJ hF O O O O (ak hg1) ae _ (aF O O O O O) (fun a hF=>?_)
   refine vR hF<|vV O (bF hg1 rfl rfl rfl) fun a hF=>?_
   exact hJ1 _ ((hF.keep [8,0,2] (F':=[(8,_),(0,_),(2,_)]) O).bool (by rw [hg1]; rfl))
 refine vR hF<|vX O<|vE hK2 fun a hF=>?_
 apply wp_ret
 refine aO hF Tryz.results201 O ?_
 exact ⟨by rw [IM],rfl⟩
theorem Dy (c:UInt8):((lw c || sU c) || aI .eql (c.toNat:Int) (95))=pF c:=by
 unfold pF aI
 congr 1
 rw [Bool.eq_iff_iff]
 simp only [decide_eq_true_eq,beq_iff_eq]
 rw [← UInt8.toNat_inj]
 show (c.toNat:Int)=95↔c.toNat=95
 omega
set_option maxRecDepth 100000 in
set_option maxHeartbeats 1000000 in
theorem CW (c:UInt8) (w:World):Calls Tryz.prog 171 #[.int .u8 (c.toNat:Int)] w fun e w'=>e= .returned (.bool (pF c))∧w=w':=by
 refine aP Tryz.func171 O Tryz.ntmps171 ai (fun a hF=>?_)
 refine wS hF fun K1 hK1=>vX O<|vE hK1<|wT fun K2 hK2=>vX O fun a hF=>?_
 refine ax O (fun K hK=>ay hF O ae yB rfl rfl ?_)
 with_reducible refine (uo c _).mono ?_
 rintro e' w3 ⟨rfl,rfl⟩
 refine ⟨_,rfl,fun a hF=>hK _ _ ?_⟩
 refine vR hF<|vX O fun a hF=>?_
 refine bK (l2:=?lA1) hF [(8,.bool ((lw c) || (sU c))),(0,.int .u8 (c.toNat:Int)),(2,.bool false)] (fun hJ1=>?elA1) (fun a hF=>?flA1)
 case elA1 =>
  rcases tf (lw c) with hg1 | hg1
  ·refine aJ hF O O O O (ak hg1) ae _ (aV O O) (fun a hF=>?_)
   refine gI hF O O O (ak hg1) (fun K hK=>ay hF O ae FH rfl rfl ?_)
   with_reducible refine (E8 c _).mono ?_
   rintro e' w6 ⟨rfl,rfl⟩
   refine ⟨_,rfl,fun a hF=>hK _ _ ?_⟩
   refine vR hF<|vV O (bu hg1 rfl rfl rfl) fun a hF=>?_
   exact hJ1 _ ((hF.keep [8,0,2] (F':=[(8,_),(0,_),(2,_)]) O).bool (by rw [hg1]; rfl))
  ·refine az hF O O O O O (aB hg1) ae (fun a hF=>?_)
   refine az hF O O O O O (aB hg1) ae (fun a hF=>?_)
   refine vR hF<|vV O (bF hg1 rfl rfl rfl) fun a hF=>?_
   exact hJ1 _ ((hF.keep [8,0,2] (F':=[(8,_),(0,_),(2,_)]) O).bool (by rw [hg1]; rfl))
 refine vR hF<|vX O fun a hF=>?_
 refine bK (l2:=?lA2) hF [(12,.bool (((lw c) || (sU c)) || (aI .eql ((c.toNat:Int)) (95)))),(0,.int .u8 (c.toNat:Int)),(2,.bool false)] (fun hJ2=>?elA2) (fun a hF=>?flA2)
 case elA2 =>
  rcases tf ((lw c) || (sU c)) with hg2 | hg2
  ·refine aJ hF O O O O (ak hg2) ae _ (aV O O) (fun a hF=>?_)
   refine aJ hF O O O O (ak hg2) ae _ (aF O O O O O) (fun a hF=>?_)
   refine vR hF<|vV O (bu hg2 rfl rfl rfl) fun a hF=>?_
   exact hJ2 _ ((hF.keep [12,0,2] (F':=[(12,_),(0,_),(2,_)]) O).bool (by rw [hg2]; rfl))
  ·refine az hF O O O O O (aB hg2) ae (fun a hF=>?_)
   refine az hF O O O O O (aB hg2) ae (fun a hF=>?_)
   refine vR hF<|vV O (bF hg2 rfl rfl rfl) fun a hF=>?_
   exact hJ2 _ ((hF.keep [12,0,2] (F':=[(12,_),(0,_),(2,_)]) O).bool (by rw [hg2]; rfl))
 refine vR hF<|vX O<|vE hK2 fun a hF=>?_
 apply wp_ret
 refine aO hF Tryz.results171 O ?_
 exact ⟨by rw [Dy],rfl⟩
theorem ET {s:List UInt8} {x:Bool} (h:((aI .eql ((s.length:Nat):Int) 0) || x)=false):s[0]? = some (bAt s 0):=su (by
 have h1:=(Bool.or_eq_false_iff.1 h).1
 simp [aI] at h1
 exact List.length_pos_iff.2 h1)
theorem wX {s:List UInt8} (h:(((aI .eql ((s.length:Nat):Int) 0) || (aI .gtr ((s.length:Nat):Int) 64)) || (!(lw (bAt s 0))))=false):1≤s.length∧s.length≤64∧lw (bAt s 0)=true:=by
 rw [Bool.or_eq_false_iff,Bool.or_eq_false_iff] at h
 obtain ⟨⟨h1,h2⟩,h3⟩:=h
 simp [aI] at h1 h2
 exact ⟨List.length_pos_iff.2 h1,ag,by simpa using h3⟩
theorem wW {s:List UInt8} (h:(((aI .eql ((s.length:Nat):Int) 0) || (aI .gtr ((s.length:Nat):Int) 64)) || (!(lw (bAt s 0))))=true):iI s=false:=by
 cases hs:iI s with
 | false=>rfl
 | true =>
  unfold iI at hs
  rw [Bool.and_eq_true,Bool.and_eq_true,decide_eq_true_eq] at hs
  obtain ⟨⟨⟨h1,h2⟩,h3⟩,_⟩:=hs
  rw [h3] at h
  simp [aI] at h
  rcases h with h | h
  ·rw [h] at h1; exact absurd h1 ae
  ·omega
theorem yI {s:List UInt8} {i:Nat} {b:UInt8} {p:UInt8→Bool} (hb:s[i]? = some b) (h:(s.take i).all p=true) (hp:p b=true):(s.take (i+1)).all p=true:=by
 rw [List.take_add_one,hb,List.all_append,h]
 simp [hp]
theorem Gz {s:List UInt8} {i:Nat} {p:UInt8→Bool} (hi:i<s.length) (hp:p (bAt s i)=false):s.all p=false:=by
 cases h:s.all p with
 | false=>rfl
 | true =>
  rw [List.all_eq_true] at h
  have:=h _ (List.mem_of_getElem? (su hi))
  rw [hp] at this
  exact absurd this ae
theorem yO {s:List UInt8} {i:Nat} (hi:i<s.length) (hp:pF (bAt s i)=false):iI s=false:=by
 unfold iI
 rw [Gz hi hp,Bool.and_false]
theorem wY {s:List UInt8} (h:1≤s.length∧s.length≤64∧lw (bAt s 0)=true) (ha:(s.take s.length).all pF=true):iI s=true:=by
 rw [List.take_length] at ha
 unfold iI
 rw [ha,h.2.2,decide_eq_true ⟨h.1,h.2.1⟩]
 rfl
set_option maxRecDepth 100000 in
set_option maxHeartbeats 1000000 in
theorem CV {w0:World} {R:List Seg} (s:List UInt8) (w:World) (hA:Hp w0 R w):Calls Tryz.prog 143 #[aj s] w fun e w'=>e= .returned (.bool (iI s))∧w=w':=by
 refine aP Tryz.func143 O Tryz.ntmps143 ai (fun a hF=>?_)
 refine wS hF fun K1 hK1=>vX O<|vE hK1<|wQ fun K2 hK2=>wT fun K3 hK3=>vX O<|vV O (ik (z:=(s.length:Nat)) O Nz O O)<|vV O (aF O O O O O)<|vX O fun a hF=>?_
 refine bK (l2:=?lA1) hF [(11,.bool ((aI .eql ((s.length:Nat)) (0)) || (aI .gtr ((s.length:Nat)) (64)))),(0,aj s),(2,.bool false)] (fun hJ1=>?elA1) (fun a hF=>?flA1)
 case elA1 =>
  rcases tf (aI .eql ((s.length:Nat)) (0)) with hg1 | hg1
  ·refine aJ hF O O O O (ak hg1) ae _ (aV O O) (fun a hF=>?_)
   refine aJ hF O O O O (ak hg1) ae _ (ik (z:=(s.length:Nat)) O Nz O O) (fun a hF=>?_)
   refine aJ hF O O O O (ak hg1) ae _ (aF O O O O O) (fun a hF=>?_)
   refine vR hF<|vV O (bu hg1 rfl rfl rfl) fun a hF=>?_
   exact hJ1 _ ((hF.keep [11,0,2] (F':=[(11,_),(0,_),(2,_)]) O).bool (by rw [hg1]; rfl))
  ·refine az hF O O O O O (aB hg1) ae (fun a hF=>?_)
   refine az hF O O O O O (aB hg1) ae (fun a hF=>?_)
   refine az hF O O O O O (aB hg1) ae (fun a hF=>?_)
   refine vR hF<|vV O (bF hg1 rfl rfl rfl) fun a hF=>?_
   exact hJ1 _ ((hF.keep [11,0,2] (F':=[(11,_),(0,_),(2,_)]) O).bool (by rw [hg1]; rfl))
 refine vR hF<|vX O fun a hF=>?_
 refine bK (l2:=?lA2) hF [(17,.bool (((aI .eql ((s.length:Nat)) (0)) || (aI .gtr ((s.length:Nat)) (64))) || (!(lw (bAt s 0))))),(0,aj s),(2,.bool false)] (fun hJ2=>?elA2) (fun a hF=>?flA2)
 case elA2 =>
  rcases tf ((aI .eql ((s.length:Nat)) (0)) || (aI .gtr ((s.length:Nat)) (64))) with hg2 | hg2
  ·refine aJ hF O O O O (ak hg2) ae _ (aV O O) (fun a hF=>?_)
   refine aJ hF O O O O (ak hg2) ae _ (qA O Nz O O 0 O (ET hg2)) (fun a hF=>?_)
   refine gI hF O O O (ak hg2) (fun K hK=>ay hF O ae yB rfl rfl ?_)
   with_reducible refine (uo (bAt s 0) _).mono ?_
   rintro e' w3 ⟨rfl,rfl⟩
   refine ⟨_,rfl,fun a hF=>hK _ _ ?_⟩
   refine aJ hF O O O O (ak hg2) ae _ (dm O O O) (fun a hF=>?_)
   refine vR hF<|vV O (bu hg2 rfl rfl rfl) fun a hF=>?_
   exact hJ2 _ ((hF.keep [17,0,2] (F':=[(17,_),(0,_),(2,_)]) O).bool (by rw [hg2]; rfl))
  ·refine az hF O O O O O (aB hg2) ae (fun a hF=>?_)
   refine az hF O O O O O (aB hg2) ae (fun a hF=>?_)
   refine az hF O O O O O (aB hg2) ae (fun a hF=>?_)
   refine az hF O O O O O (aB hg2) ae (fun a hF=>?_)
   refine vR hF<|vV O (bF hg2 rfl rfl rfl) fun a hF=>?_
   exact hJ2 _ ((hF.keep [17,0,2] (F':=[(17,_),(0,_),(2,_)]) O).bool (by rw [hg2]; rfl))
 refine aH<|hK3 _ _ ?_
 rcases tf (((aI .eql ((s.length:Nat)) (0)) || (aI .gtr ((s.length:Nat)) (64))) || (!(lw (bAt s 0)))) with hs | hs
 ·refine au hF O hs ?_
  obtain ⟨hl1,hl2,hl3⟩:=wX hs
  apply wp_skip
  refine hK2 _ _ ?_
  apply wp_seq_k; intro K4 hK4
  refine wS hF fun K5 hK5=>vX O<|vV O (ik (z:=(s.length:Nat)) O Nz O O)<|vX O<|vE hK5<|wBk fun a hF=>?_
  refine bH (G:=Nat) (fun i a x=>i≤s.length∧(s.take i).all pF=true∧w=x∧Fr 29 [(20,.int .i64 (i:Int)),(0,aj s),(19,.int .i64 (s.length:Nat))] a∧Hp w0 (R) x) (fun i=>s.length-i) 0 (⟨Nl _,rfl,rfl,hF.keep [20,0,19] rfl,hA⟩) ?_
  clear hF
  rintro i a w5 ⟨hi,hall,hww,hF,hA4⟩
  refine wS hF fun K6 hK6=>vV O (aF O O O O O)<|vE hK6<|wQ fun K7 hK7 a hF=>?_
  by_cases hlt:i<s.length
  ·refine aG hF O (dF ag) ?_
   have hat:=su (l:=s) hlt
   apply wp_skip
   refine hK7 _ _ ?_
   apply wp_seq_k; intro K8 hK8
   apply wp_block
   refine wS hF fun K9 hK9=>vX O<|vX O<|vE hK9<|wT fun K10 hK10=>vX O<|vX O<|vV O (qA O Nz O O i rfl hat) fun a hF=>?_
   refine ax O (fun K hK=>ay hF O ae FM rfl rfl ?_)
   with_reducible refine (CW (bAt s i) _).mono ?_
   rintro e' w8 ⟨rfl,rfl⟩
   refine ⟨_,rfl,fun a hF=>hK _ _ ?_⟩
   refine vR hF<|vV O (dm O O O)<|vE hK10 fun a hF=>?_
   rcases tf (pF (bAt s i)) with hw | hw
   ·refine aG hF O (by rw [hw]; rfl) ?_
    refine wS hF fun K11 hK11=>vX O<|vE hK11 fun a hF=>?_
    apply wp_ret
    simp only [Exit.then,Exit.inBlock]
    refine aO hF Tryz.results143 O ?_
    exact ⟨by rw [yO hlt hw],hww⟩
   ·refine au hF O (by rw [hw]; rfl) ?_
    apply wp_skip
    refine hK8 _ _ ?_
    refine wp_region_lit ?_
    refine vR hF<|vV O (bT O O O (Np _ ag))<|vX O fun a hF=>?_
    refine aH ?_
    exact ⟨i+1,ag,ag,yI hat hall hw,hww,hF.keep [20,0,19] rfl,hA4⟩
  ·refine au hF O (dE ag) ?_
   obtain rfl:i=s.length:=by omega
   apply wp_exit
   refine hK4 _ _ ?_
   refine wS hF fun K12 hK12=>vX O<|vE hK12 fun a hF=>?_
   apply wp_ret
   refine aO hF Tryz.results143 O ?_
   exact ⟨by rw [wY ⟨hl1,hl2,hl3⟩ hall],hww⟩
 ·refine aG hF O hs ?_
  refine wS hF fun K13 hK13=>vX O<|vE hK13 fun a hF=>?_
  apply wp_ret
  simp only [Exit.then]
  refine aO hF Tryz.results143 O ?_
  exact ⟨by rw [wW hs],rfl⟩
def mO (w0:World):Prop:=Rc w0 [] (some ⟨1,0,none⟩) (reserved.map aj)
set_option maxRecDepth 100000 in
set_option maxHeartbeats 1000000 in
theorem IB {w0:World} {R:List Seg} (s:List UInt8) (w:World) (hT:mO w0) (hA:Hp w0 R w):Calls Tryz.prog 172 #[aj s] w fun e w'=>∃ z:Int,e= .returned (.int .u8 z)∧decide (z≠0)=reserved.contains s∧w=w':=by
 obtain ⟨_,_,hb,hc⟩:=hT.ne (i:=0) ae
 injection hb with hb
 injection hb with hb1 hb2
 subst hb1 hb2
 refine aP Tryz.func172 O Tryz.ntmps172 ai (fun a hF=>?_)
 refine wS hF fun K1 hK1=>vX O<|vE hK1<|wQ fun K2 hK2=>wT fun K3 hK3=>vV O (dK (new:=reserved.map aj) rfl (Hq.sub hA.q (List.nil_subset _)) O hc 0 ae rfl (by rw [List.drop_zero]; exact Ny ae) DV) fun a hF=>?_
 refine vR hF<|vX O<|vE hK3<|wBk fun a hF=>?_
 refine bH (G:=Nat) (fun i a x=>i≤35∧(∀ j,j<i→reserved[j]? ≠ some s)∧w=x∧Fr 17 [(6,.int .i64 (i:Int)),(0,aj s),(5,.agg (reserved.map aj).toArray)] a∧Hp w0 (R) x) (fun i=>35-i) 0 (⟨ae,(fun j hj=>absurd hj (Nat.not_lt_zero _)),rfl,hF.keep [6,0,5] rfl,hA⟩) ?_
 clear hF
 rintro i a w2 ⟨hi,hall,hww,hF,hA1⟩
 refine wS hF fun K4 hK4=>vV O (aF O O O O O)<|vE hK4<|wQ fun K5 hK5 a hF=>?_
 by_cases hlt:i<35
 ·refine aG hF O (dF ag) ?_
  obtain ⟨u,hu⟩:∃ u,reserved[i]? = some u:=⟨_,List.getElem?_eq_getElem (show i<reserved.length from hlt)⟩
  apply wp_skip
  refine hK5 _ _ ?_
  apply wp_seq_k; intro K6 hK6
  apply wp_block
  refine wS hF fun K7 hK7=>vX O<|vV O (Dq (v:=aj u) rfl Tryz.underlying240 Nz uB O O i rfl ag (by rw [List.getElem?_map,hu]; rfl)) fun a hF=>?_
  refine vR hF<|vX O<|vX O<|vE hK7<|wT fun K8 hK8=>vX O<|vX O<|vV O (fA O O O O O)<|vE hK8 fun a hF=>?_
  rcases tf (bJ .eql u s) with he | he
  ·refine au hF O he ?_
   apply wp_skip
   refine hK6 _ _ ?_
   refine wp_region_lit ?_
   refine vR hF<|vV O (bT O O O (Np _ ag))<|vX O fun a hF=>?_
   refine aH ?_
   exact ⟨i+1,ag,ag,(fun j hj hh=>by
    rcases Nat.lt_succ_iff_lt_or_eq.1 hj with h | rfl
    ·exact hall j h hh
    ·rw [hu] at hh; injection hh with hh; subst hh; simp [bJ] at he),hww,hF.keep [6,0,5] rfl,hA1⟩
  ·replace he:u=s:=by simpa [bJ] using he
   subst he
   refine aG hF O (by simp [bJ]) ?_
   refine wS hF fun K9 hK9=>vX O<|vV O (bW O NC Tryz.underlying224 O (show IntKind.u8.wrap ((i:Int))=(i:Int) by rw [IntKind.wrap_u8]; omega)) fun a hF=>?_
   refine vR hF<|vV O (bT O O O (show IntKind.u8.wrap ((23:Int)+(i:Int))=((23+i:Nat):Int) by rw [IntKind.wrap_u8]; omega)) fun a hF=>?_
   refine vR hF<|vX O<|vE hK9 fun a hF=>?_
   apply wp_ret
   simp only [Exit.then,Exit.inBlock]
   refine aO hF Tryz.results172 O ?_
   exact ⟨_,rfl,by rw [show reserved.contains u=true from List.contains_iff_mem.2 (List.mem_of_getElem? hu)]; simp; omega,hww⟩
 ·refine au hF O (dE ag) ?_
  obtain rfl:i=35:=by omega
  apply wp_exit
  refine hK2 _ _ ?_
  refine wS hF fun K10 hK10=>vX O<|vE hK10 fun a hF=>?_
  apply wp_ret
  refine aO hF Tryz.results172 O ?_
  have hno:reserved.contains s=false:=by
   cases h:reserved.contains s with
   | false=>rfl
   | true =>
    obtain ⟨j,hj⟩:=List.mem_iff_getElem?.1 (List.contains_iff_mem.1 h)
    exact absurd hj (hall j (by have:=(List.getElem?_eq_some_iff.1 hj).1; exact this))
  exact ⟨0,rfl,by rw [hno]; simp,hww⟩
set_option maxRecDepth 100000 in
set_option maxHeartbeats 1000000 in
theorem yl {w0:World} {R:List Seg} (s:List UInt8) (w:World) (hT:mO w0) (hA:Hp w0 R w):Calls Tryz.prog 144 #[aj s] w fun e w'=>e= .returned (.bool (reserved.contains s))∧w=w':=by
 refine aP Tryz.func144 O Tryz.ntmps144 ai (fun a hF=>?_)
 refine wS hF fun K1 hK1=>vX O<|vE hK1<|wT fun K2 hK2=>vX O fun a hF=>?_
 refine ax O (fun K hK=>ay hF O ae FK rfl rfl ?_)
 with_reducible refine (IB s _ hT hA).mono ?_
 rintro e' w3 ⟨z,rfl,hz,rfl⟩
 refine ⟨_,rfl,fun a hF=>hK _ _ ?_⟩
 refine vR hF<|vV O (aF O O O O O)<|vX O<|vE hK2 fun a hF=>?_
 apply wp_ret
 refine aO hF Tryz.results144 O ?_
 exact ⟨by rw [← hz]; unfold aI; by_cases h:z=0 <;> simp [h],rfl⟩
set_option maxRecDepth 100000 in
set_option maxHeartbeats 1000000 in
theorem lT {w0:World} {R:List Seg} (s:List UInt8) (w:World) (hT:mO w0) (hA:Hp w0 R w):Calls Tryz.prog 87 #[aj s] w fun e w'=>e= .returned (.bool (bY s))∧w=w':=by
 refine aP Tryz.func87 O Tryz.ntmps87 ai (fun a hF=>?_)
 refine wS hF fun K1 hK1=>vX O<|vE hK1<|wT fun K2 hK2=>vX O fun a hF=>?_
 refine ax O (fun K hK=>ay hF O ae F5 rfl rfl ?_)
 with_reducible refine (CV s _ hA).mono ?_
 rintro e' w3 ⟨rfl,rfl⟩
 refine ⟨_,rfl,fun a hF=>hK _ _ ?_⟩
 refine vR hF<|vX O fun a hF=>?_
 refine bK (l2:=?lA1) hF [(9,.bool ((iI s) && (!(reserved.contains s)))),(0,aj s),(2,.bool false)] (fun hJ1=>?elA1) (fun a hF=>?flA1)
 case elA1 =>
  rcases tf (iI s) with hg1 | hg1
  ·refine az hF O O O O O (aB hg1) ae (fun a hF=>?_)
   refine az hF O O O O O (aB hg1) ae (fun a hF=>?_)
   refine az hF O O O O O (aB hg1) ae (fun a hF=>?_)
   refine vR hF<|vV O (bu hg1 rfl rfl rfl) fun a hF=>?_
   exact hJ1 _ ((hF.keep [9,0,2] (F':=[(9,_),(0,_),(2,_)]) O).bool (by rw [hg1]; rfl))
  ·refine aJ hF O O O O (ak hg1) ae _ (aV O O) (fun a hF=>?_)
   refine gI hF O O O (ak hg1) (fun K hK=>ay hF O ae FZ rfl rfl ?_)
   with_reducible refine (yl s _ hT hA).mono ?_
   rintro e' w6 ⟨rfl,rfl⟩
   refine ⟨_,rfl,fun a hF=>hK _ _ ?_⟩
   refine aJ hF O O O O (ak hg1) ae _ (dm O O O) (fun a hF=>?_)
   refine vR hF<|vV O (bF hg1 rfl rfl rfl) fun a hF=>?_
   exact hJ1 _ ((hF.keep [9,0,2] (F':=[(9,_),(0,_),(2,_)]) O).bool (by rw [hg1]; rfl))
 refine vR hF<|vX O<|vE hK2 fun a hF=>?_
 apply wp_ret
 refine aO hF Tryz.results87 O ?_
 exact ⟨rfl,rfl⟩
def Bj (z:Int):Bool:=((aI .lss z 97 || aI .gtr z 122) && (aI .lss z 48 || aI .gtr z 57)) && aI .neq z 45
theorem yH (c:UInt8):Bj (c.toNat:Int) = !uu c:=by
 unfold Bj uu lw sU
 have h:(c=45)=(c.toNat=45):=by rw [← UInt8.toNat_inj]; rfl
 simp only [h,aI]
 rw [Bool.eq_iff_iff]
 simp only [Bool.and_eq_true,Bool.or_eq_true,decide_eq_true_eq,bne_iff_ne,Bool.not_eq_true',Bool.or_eq_false_iff,decide_eq_false_iff_not]
 omega
theorem Gn {c:UInt8} (h:Bj (c.toNat:Int)=false):uu c=true:=by rw [yH] at h; simpa using h
theorem Gp {s:List UInt8} {m:Int} {i:Nat} (hi:i<s.length) (hp:Bj ((bAt s i).toNat:Int)=true):dS s m=false:=by
 unfold dS
 rw [Gz hi (by rw [yH] at hp; simpa using hp),Bool.and_false]
theorem Dh {s:List UInt8} {m:Int} (h:(aI .eql ((s.length:Nat):Int) 0 || aI .gtr ((s.length:Nat):Int) m)=false):1≤s.length∧(s.length:Int)≤m:=by
 rw [Bool.or_eq_false_iff] at h
 obtain ⟨h1,h2⟩:=h
 simp [aI] at h1 h2
 exact ⟨List.length_pos_iff.2 h1,ag⟩
theorem Df {s:List UInt8} {m:Int} (h:(aI .eql ((s.length:Nat):Int) 0 || aI .gtr ((s.length:Nat):Int) m)=true):dS s m=false:=by
 unfold dS
 rw [decide_eq_false (fun hh=>by
  simp [aI] at h
  rcases h with h | h
  ·rw [h] at hh; exact absurd hh.1 ae
  ·omega),Bool.false_and]
theorem Di {s:List UInt8} {m:Int} (h:1≤s.length∧(s.length:Int)≤m) (ha:(s.take s.length).all uu=true):dS s m=true:=by
 rw [List.take_length] at ha
 unfold dS
 rw [ha,decide_eq_true h]
 rfl
set_option maxRecDepth 100000 in
set_option maxHeartbeats 1000000 in
theorem IG {w0:World} {R:List Seg} (s:List UInt8) (m:Int) (_hm:m≤9223372036854775807) (w:World) (hA:Hp w0 R w):Calls Tryz.prog 136 #[aj s,.int .i64 m] w fun e w'=>e= .returned (.bool (dS s m))∧w=w':=by
 refine aP Tryz.func136 O Tryz.ntmps136 ai (fun a hF=>?_)
 refine wS hF fun K1 hK1=>vX O<|vE hK1<|wQ fun K2 hK2=>wT fun K3 hK3=>vX O<|vV O (ik (z:=(s.length:Nat)) O Nz O O)<|vV O (aF O O O O O)<|vX O fun a hF=>?_
 refine bK (l2:=?lA1) hF [(15,.bool ((aI .eql ((s.length:Nat)) (0)) || (aI .gtr ((s.length:Nat)) (m)))),(0,aj s),(1,.int .i64 m),(4,.bool false)] (fun hJ1=>?elA1) (fun a hF=>?flA1)
 case elA1 =>
  rcases tf (aI .eql ((s.length:Nat)) (0)) with hg1 | hg1
  ·refine aJ hF O O O O (ak hg1) ae _ (aV O O) (fun a hF=>?_)
   refine aJ hF O O O O (ak hg1) ae _ (ik (z:=(s.length:Nat)) O Nz O O) (fun a hF=>?_)
   refine aJ hF O O O O (ak hg1) ae _ (aV O O) (fun a hF=>?_)
   refine aJ hF O O O O (ak hg1) ae _ (aF O O O O O) (fun a hF=>?_)
   refine vR hF<|vV O (bu hg1 rfl rfl rfl) fun a hF=>?_
   exact hJ1 _ ((hF.keep [15,0,1,4] (F':=[(15,_),(0,_),(1,_),(4,_)]) O).bool (by rw [hg1]; rfl))
  ·refine az hF O O O O O (aB hg1) ae (fun a hF=>?_)
   refine az hF O O O O O (aB hg1) ae (fun a hF=>?_)
   refine az hF O O O O O (aB hg1) ae (fun a hF=>?_)
   refine az hF O O O O O (aB hg1) ae (fun a hF=>?_)
   refine vR hF<|vV O (bF hg1 rfl rfl rfl) fun a hF=>?_
   exact hJ1 _ ((hF.keep [15,0,1,4] (F':=[(15,_),(0,_),(1,_),(4,_)]) O).bool (by rw [hg1]; rfl))
 refine aH<|hK3 _ _ ?_
 rcases tf ((aI .eql ((s.length:Nat)) (0)) || (aI .gtr ((s.length:Nat)) (m))) with hs | hs
 ·refine au hF O hs ?_
  have hh:=Dh hs
  apply wp_skip
  refine hK2 _ _ ?_
  apply wp_seq_k; intro K4 hK4
  refine wS hF fun K5 hK5=>vX O<|vV O (ik (z:=(s.length:Nat)) O Nz O O)<|vX O<|vE hK5<|wBk fun a hF=>?_
  refine bH (G:=Nat) (fun i a x=>i≤s.length∧(s.take i).all uu=true∧w=x∧Fr 43 [(18,.int .i64 (i:Int)),(0,aj s),(17,.int .i64 (s.length:Nat))] a∧Hp w0 (R) x) (fun i=>s.length-i) 0 (⟨Nl _,rfl,rfl,hF.keep [18,0,17] rfl,hA⟩) ?_
  clear hF
  rintro i a w2 ⟨hi,hall,hww,hF,hA1⟩
  refine wS hF fun K6 hK6=>vV O (aF O O O O O)<|vE hK6<|wQ fun K7 hK7 a hF=>?_
  by_cases hlt:i<s.length
  ·refine aG hF O (dF ag) ?_
   have hat:=su (l:=s) hlt
   apply wp_skip
   refine hK7 _ _ ?_
   apply wp_seq_k; intro K8 hK8
   apply wp_block
   refine wS hF fun K9 hK9=>vX O<|vX O<|vE hK9<|wT fun K10 hK10=>vX O<|vX O<|vV O (qA O Nz O O i rfl hat)<|vX O<|vE hK10<|wT fun K11 hK11=>vX O<|vV O (aF O O O O O)<|vX O fun a hF=>?_
   refine bK (l2:=?lA2) hF [(29,.bool ((aI .lss (((bAt s i).toNat:Int)) (97)) || (aI .gtr (((bAt s i).toNat:Int)) (122)))),(0,aj s),(17,.int .i64 (s.length:Nat)),(18,.int .i64 (i:Int)),(19,.bool (aI .lss ((i:Int)) ((s.length:Nat)))),(20,.int .i64 (i:Int)),(5,.int .i64 (i:Int)),(21,aj s),(22,.int .i64 (i:Int)),(23,.int .u8 ((bAt s i).toNat:Int)),(6,.int .u8 ((bAt s i).toNat:Int))] (fun hJ2=>?elA2) (fun a hF=>?flA2)
   case elA2 =>
    rcases tf (aI .lss (((bAt s i).toNat:Int)) (97)) with hg2 | hg2
    ·refine aJ hF O O O O (ak hg2) ae _ (aV O O) (fun a hF=>?_)
     refine aJ hF O O O O (ak hg2) ae _ (aF O O O O O) (fun a hF=>?_)
     refine vR hF<|vV O (bu hg2 rfl rfl rfl) fun a hF=>?_
     exact hJ2 _ ((hF.keep [29,0,17,18,19,20,5,21,22,23,6] (F':=[(29,_),(0,_),(17,_),(18,_),(19,_),(20,_),(5,_),(21,_),(22,_),(23,_),(6,_)]) O).bool (by rw [hg2]; rfl))
    ·refine az hF O O O O O (aB hg2) ae (fun a hF=>?_)
     refine az hF O O O O O (aB hg2) ae (fun a hF=>?_)
     refine vR hF<|vV O (bF hg2 rfl rfl rfl) fun a hF=>?_
     exact hJ2 _ ((hF.keep [29,0,17,18,19,20,5,21,22,23,6] (F':=[(29,_),(0,_),(17,_),(18,_),(19,_),(20,_),(5,_),(21,_),(22,_),(23,_),(6,_)]) O).bool (by rw [hg2]; rfl))
   refine vR hF<|vX O fun a hF=>?_
   refine bK (l2:=?lA3) hF [(37,.bool (((aI .lss (((bAt s i).toNat:Int)) (97)) || (aI .gtr (((bAt s i).toNat:Int)) (122))) && ((aI .lss (((bAt s i).toNat:Int)) (48)) || (aI .gtr (((bAt s i).toNat:Int)) (57))))),(0,aj s),(17,.int .i64 (s.length:Nat)),(18,.int .i64 (i:Int)),(19,.bool (aI .lss ((i:Int)) ((s.length:Nat)))),(20,.int .i64 (i:Int)),(5,.int .i64 (i:Int)),(21,aj s),(22,.int .i64 (i:Int)),(23,.int .u8 ((bAt s i).toNat:Int)),(6,.int .u8 ((bAt s i).toNat:Int))] (fun hJ3=>?elA3) (fun a hF=>?flA3)
   case elA3 =>
    rcases tf ((aI .lss (((bAt s i).toNat:Int)) (97)) || (aI .gtr (((bAt s i).toNat:Int)) (122))) with hg3 | hg3
    ·refine az hF O O O O O (aB hg3) ae (fun a hF=>?_)
     refine az hF O O O O O (aB hg3) ae (fun a hF=>?_)
     refine az hF O O O O O (aB hg3) ae (fun a hF=>?_)
     refine bD hF O O O O O ae (fun a hF=>?_)
     refine bD hF O O O O O ae (fun a hF=>?_)
     refine az hF O O O O O (aB hg3) ae (fun a hF=>?_)
     refine vR hF<|vV O (bu hg3 rfl rfl rfl) fun a hF=>?_
     exact hJ3 _ ((hF.keep [37,0,17,18,19,20,5,21,22,23,6] (F':=[(37,_),(0,_),(17,_),(18,_),(19,_),(20,_),(5,_),(21,_),(22,_),(23,_),(6,_)]) O).bool (by rw [hg3]; rfl))
    ·refine aJ hF O O O O (ak hg3) ae _ (aV O O) (fun a hF=>?_)
     refine aJ hF O O O O (ak hg3) ae _ (aF O O O O O) (fun a hF=>?_)
     refine aJ hF O O O O (ak hg3) ae _ (aV O O) (fun a hF=>?_)
     refine bK (l2:=?lA4) hF [(36,.bool ((aI .lss (((bAt s i).toNat:Int)) (48)) || (aI .gtr (((bAt s i).toNat:Int)) (57)))),(0,aj s),(17,.int .i64 (s.length:Nat)),(18,.int .i64 (i:Int)),(19,.bool (aI .lss ((i:Int)) ((s.length:Nat)))),(20,.int .i64 (i:Int)),(5,.int .i64 (i:Int)),(21,aj s),(22,.int .i64 (i:Int)),(23,.int .u8 ((bAt s i).toNat:Int)),(6,.int .u8 ((bAt s i).toNat:Int)),(30,.bool ((aI .lss (((bAt s i).toNat:Int)) (97)) || (aI .gtr (((bAt s i).toNat:Int)) (122))))] (fun hJ4=>?elA4) (fun a hF=>?flA4)
     case elA4 =>
      rcases tf (aI .lss (((bAt s i).toNat:Int)) (48)) with hg4 | hg4
      ·refine aJ hF O O O O (ak hg4) ae _ (aV O O) (fun a hF=>?_)
       refine aJ hF O O O O (ak hg4) ae _ (aF O O O O O) (fun a hF=>?_)
       refine aJ hF O O O O (ak hg3) ae _ (bu hg4 rfl rfl rfl) (fun a hF=>?_)
       exact hJ4 _ ((hF.keep [36,0,17,18,19,20,5,21,22,23,6,30] (F':=[(36,_),(0,_),(17,_),(18,_),(19,_),(20,_),(5,_),(21,_),(22,_),(23,_),(6,_),(30,_)]) O).bool (by rw [hg4]; rfl))
      ·refine az hF O O O O O (aB hg4) ae (fun a hF=>?_)
       refine az hF O O O O O (aB hg4) ae (fun a hF=>?_)
       refine aJ hF O O O O (ak hg3) ae _ (bF hg4 rfl rfl rfl) (fun a hF=>?_)
       exact hJ4 _ ((hF.keep [36,0,17,18,19,20,5,21,22,23,6,30] (F':=[(36,_),(0,_),(17,_),(18,_),(19,_),(20,_),(5,_),(21,_),(22,_),(23,_),(6,_),(30,_)]) O).bool (by rw [hg4]; rfl))
     refine vR hF<|vV O (bF hg3 rfl rfl rfl) fun a hF=>?_
     exact hJ3 _ ((hF.keep [37,0,17,18,19,20,5,21,22,23,6] (F':=[(37,_),(0,_),(17,_),(18,_),(19,_),(20,_),(5,_),(21,_),(22,_),(23,_),(6,_)]) O).bool (by rw [hg3]; rfl))
   refine vR hF<|vX O fun a hF=>?_
   refine bK (l2:=?lA5) hF [(41,.bool ((((aI .lss (((bAt s i).toNat:Int)) (97)) || (aI .gtr (((bAt s i).toNat:Int)) (122))) && ((aI .lss (((bAt s i).toNat:Int)) (48)) || (aI .gtr (((bAt s i).toNat:Int)) (57)))) && (aI .neq (((bAt s i).toNat:Int)) (45)))),(0,aj s),(17,.int .i64 (s.length:Nat)),(18,.int .i64 (i:Int)),(19,.bool (aI .lss ((i:Int)) ((s.length:Nat)))),(20,.int .i64 (i:Int)),(5,.int .i64 (i:Int)),(21,aj s),(22,.int .i64 (i:Int)),(23,.int .u8 ((bAt s i).toNat:Int))] (fun hJ5=>?elA5) (fun a hF=>?flA5)
   case elA5 =>
    rcases tf (((aI .lss (((bAt s i).toNat:Int)) (97)) || (aI .gtr (((bAt s i).toNat:Int)) (122))) && ((aI .lss (((bAt s i).toNat:Int)) (48)) || (aI .gtr (((bAt s i).toNat:Int)) (57)))) with hg5 | hg5
    ·refine az hF O O O O O (aB hg5) ae (fun a hF=>?_)
     refine az hF O O O O O (aB hg5) ae (fun a hF=>?_)
     refine vR hF<|vV O (bu hg5 rfl rfl rfl) fun a hF=>?_
     exact hJ5 _ ((hF.keep [41,0,17,18,19,20,5,21,22,23] (F':=[(41,_),(0,_),(17,_),(18,_),(19,_),(20,_),(5,_),(21,_),(22,_),(23,_)]) O).bool (by rw [hg5]; rfl))
    ·refine aJ hF O O O O (ak hg5) ae _ (aV O O) (fun a hF=>?_)
     refine aJ hF O O O O (ak hg5) ae _ (aF O O O O O) (fun a hF=>?_)
     refine vR hF<|vV O (bF hg5 rfl rfl rfl) fun a hF=>?_
     exact hJ5 _ ((hF.keep [41,0,17,18,19,20,5,21,22,23] (F':=[(41,_),(0,_),(17,_),(18,_),(19,_),(20,_),(5,_),(21,_),(22,_),(23,_)]) O).bool (by rw [hg5]; rfl))
   refine aH<|hK11 _ _ ?_
   rcases tf ((((aI .lss (((bAt s i).toNat:Int)) (97)) || (aI .gtr (((bAt s i).toNat:Int)) (122))) && ((aI .lss (((bAt s i).toNat:Int)) (48)) || (aI .gtr (((bAt s i).toNat:Int)) (57)))) && (aI .neq (((bAt s i).toNat:Int)) (45))) with hw | hw
   ·refine au hF O hw ?_
    apply wp_skip
    refine hK8 _ _ ?_
    refine wp_region_lit ?_
    refine vR hF<|vV O (bT O O O (Np _ ag))<|vX O fun a hF=>?_
    refine aH ?_
    exact ⟨i+1,ag,ag,yI hat hall (Gn hw),hww,hF.keep [18,0,17] rfl,hA1⟩
   ·refine aG hF O hw ?_
    refine wS hF fun K12 hK12=>vX O<|vE hK12 fun a hF=>?_
    apply wp_ret
    simp only [Exit.then,Exit.inBlock]
    refine aO hF Tryz.results136 O ?_
    exact ⟨by rw [Gp hlt hw],hww⟩
  ·refine au hF O (dE ag) ?_
   obtain rfl:i=s.length:=by omega
   apply wp_exit
   refine hK4 _ _ ?_
   refine wS hF fun K13 hK13=>vX O<|vE hK13 fun a hF=>?_
   apply wp_ret
   refine aO hF Tryz.results136 O ?_
   exact ⟨by rw [Di hh hall],hww⟩
 ·refine aG hF O hs ?_
  refine wS hF fun K14 hK14=>vX O<|vE hK14 fun a hF=>?_
  apply wp_ret
  simp only [Exit.then]
  refine aO hF Tryz.results136 O ?_
  exact ⟨by rw [Df hs],rfl⟩
end Go.Proofs.YtepbmdlgdaedpaaGreatDoor
