/- The statements' books of memory: apart. -/
import Derived.Test.YtpomngkcfbnjoaaGreatDoorKc
import Derived.Test.YtpomngkcfbnjoaaGreatDoorHc
/- The statements' books of memory: apart. -/
set_option maxRecDepth 100000
set_option maxHeartbeats 4000000
namespace Go.Proofs.YtpomngkcfbnjoaaGreatDoor
open Go.RowKit Go.Dk
theorem Qj:aG Tryz.prog 10:=⟨_,Tryz.func10,af,af⟩
theorem Qi:aG Tryz.prog 11:=⟨_,Tryz.func11,af,af⟩
theorem sD {p0 p1 p2 p3 p4 p5 p6 lv wv:Value} {BT:TypeId} {held:Int} (w0 w:World) (R:List Seg) (bb fm:Nat) (ks:List (KeptX (UInt8))) (Y:Seg) (mv:Nat→Nat→UInt8) (hml:∀ i j,(cB (mv i j)).length=1) (hcf:aG Tryz.prog fm) (hmark:∀ (i j:Nat) (S:List Seg) (x:World),i<4000→j<9223372036854775807→Hp w0 S x→Calls Tryz.prog fm #[.int .i64 (i:Int),.int .i64 (j:Int)] x fun e x'=>e= .returned (.int .u8 ((mv i j).toNat:Int))∧Hp w0 S x') (hb:BookV cB 70 5 1 ks lv wv Y) (hA:Hp w0 ([row bb BT [p0,p1,p2,p3,p4,p5,p6,lv,wv,.int .i64 held,.bool false]]::Y::R) w):Calls Tryz.prog 14 #[.pointer (some ⟨bb,7,none⟩),.func (.func fm) #[] #[]] w fun e w'=>e= .returned (.bool true)∧Hp w0 ([row bb BT [p0,p1,p2,p3,p4,p5,p6,.slice none 0 0,.slice none 0 0,.int .i64 0,.bool false]]::R) w':=by
 refine aJ Tryz.func14 O Tryz.ntmps14 ai (fun a hF=>?_)
 refine wS hF fun K1 hK1=>vX O<|vE hK1 fun a hF=>?_
 clear hK1 K1
 apply wp_seq_k; intro K2 hK2
 refine wS hF fun K3 hK3=>vX O fun a hF=>?_
 refine au O (fun K hK=>ax hF O ae Qi rfl rfl ?_)
 with_reducible refine (nD w0 _ R bb ks Y hb hA).mono ?_
 rintro e' w1 ⟨rfl,hA2⟩
 refine ⟨_,rfl,fun a hF=>hK _ _ ?_⟩
 clear hK K
 replace hA2:Hp w0 ([row bb BT [p0,p1,p2,p3,p4,p5,p6,lv,wv,.int .i64 held,.bool false]]::Y::R) w1:=hA2
 refine vR hF<|vV O (eU O O O)<|vE hK3 fun a hF=>?_
 clear hK3 K3
 refine dL hF O ?_
 apply wp_skip
 refine hK2 _ _ ?_; clear  hK2 K2
 apply wp_seq_k; intro K4 hK4
 refine wS hF fun K5 hK5=>vX O<|vE hK5 fun a hF=>?_
 clear hK5 K5
 apply wp_block
 obtain ⟨hn4,XL,XW,hL,hW,hK,rfl⟩:=hb
 obtain ⟨AL,cL,rfl,hcL⟩:=hL.slice
 obtain ⟨AW,cW,rfl,hcW⟩:=hW.slice
 obtain ⟨_,_,f1,_,hc1⟩:=hL.rc (w0:=w0) (R:=[XL]) (TF ..)
 injection f1 with f1 _ _
 subst f1
 have hA3:=Hp.bookX hA2
 refine bQ (G:=Nat) (fun i a x=>∃ (XS:List Seg),i≤ks.length∧ApS cB 5 1 mv ks i XS∧Fr 101 [(5,.int .i64 (i:Int)),(0,.pointer (some ⟨bb,7,none⟩)),(1,.func (.func fm) #[] #[])] a∧Hp w0 ([row bb BT [p0,p1,p2,p3,p4,p5,p6,.slice AL ks.length cL,.slice AW ks.length cW,.int .i64 held,.bool false]]::XL::XS.flatten::R) x) (fun i=>ks.length-i) 0 (⟨ks.map (·.X),Tv _,ApS.new hK,hF.keep [5,0,1] rfl,hA3⟩) ?_
 clear hF
 rintro i a w5 ⟨XS,hi,hap,hF,hA4⟩
 apply wp_seq_k; intro K6 hK6
 refine wS hF fun K7 hK7=>vX O<|vX O<|vX O<|vV O (yf 7 O TK O dO O)<|vV O (aX O hA4.q O 0 O O fU)<|vV O (aY O TL O O)<|vV O (aH O O O O O)<|vE hK7 fun a hF=>?_
 clear hK7 K7
 by_cases hlt:i<ks.length
 ·refine aZ hF O (dB ag) ?_
  obtain ⟨k0,X0,hk0,hX0,_,hbuf⟩:=hap.at hlt
  replace hbuf:=hbuf (TG _)
  obtain ⟨A,c,ev,hcap1,hcap2⟩:=hbuf.cap
  rw [ev] at hbuf
  have hA6:=Hp.outX hA4 hX0
  obtain ⟨gL,oL,eAL,hcc1⟩:=hc1.ne (i:=i) (by rw [List.length_map]; exact hlt)
  subst eAL
  apply wp_skip
  refine hK6 _ _ ?_; clear  hK6 K6
  apply wp_seq_k; intro K8 hK8
  apply wp_block
  apply wp_seq_k; intro K9 hK9
  refine ak 16 [16] [0,1,2,3,4,5,6,7,8,9,10,11,12,13,14,15,16] _ af af (Hq.drew hA6.q) ?_
  have hA7:=Hl.drew hA6
  refine pR hF<|pX O O<|pX O O<|pW O O (fun _=>yf 7 O TK O dO O)<|pV O O (fun x hx=>aX O hx O 0 O O fU)<|pX O O<|pW O O (fun _=>bi O TL mY O O i rfl hlt (ad2 _ _ _))<|pV O O (fun x hx=>bD (u:= .slice A k0.l.length c) rfl (Hq.sub hx (fun x hx=>by rw [List.mem_singleton] at hx; subst hx; simp)) O hcc1 i (by rw [List.length_map]; exact hlt) rfl (by rw [List.getElem?_map,hk0]; exact congrArg some ev) ny) fun a hF=>?_
  refine pR hF<|pX O O<|pX O O<|pW O O (fun _=>yf 7 O TK O dO O)<|pV O O (fun x hx=>aX O hx O 0 O O fU)<|pX O O<|pW O O (fun _=>bi O TL mY O O i rfl hlt (ad2 _ _ _))<|pV O O (fun x hx=>bD (u:= .slice A k0.l.length c) rfl (Hq.sub hx (fun x hx=>by rw [List.mem_singleton] at hx; subst hx; simp)) O hcc1 i (by rw [List.length_map]; exact hlt) rfl (by rw [List.getElem?_map,hk0]; exact congrArg some ev) ny) fun a hF=>?_
  refine pR hF<|pW O O (fun _=>kL O TC O)<|pW O O (fun _=>ed O TC D5 rfl (.none 0) (.some rfl rfl) (Tv _) (TG _) dU) fun a hF=>?_
  refine bY hF O O O O ae _ (bJ O O) (fun h=>absurd h ae) (fun a hF=>?_)
  refine aB ?_
  refine hK9 _ _ ?_; clear  hK9 K9
  refine wS hF fun K10 hK10=>vX O<|vE hK10 fun a hF=>?_
  clear hK10 K10
  apply wp_block
  refine bQ (G:=Nat) (fun j a x=>∃ (X1:Seg),j≤c∧Buf 5 1 X1 (.slice A j c) j (cel cB (mkL (mv i) j))∧Fr 101 [(7,.int .i64 (j:Int)),(0,.pointer (some ⟨bb,7,none⟩)),(1,.func (.func fm) #[] #[]),(5,.int .i64 (i:Int)),(6,.slice A c c)] a∧Hp w0 ([row bb BT [p0,p1,p2,p3,p4,p5,p6,.slice (some ⟨gL,oL,none⟩) ks.length cL,.slice AW ks.length cW,.int .i64 held,.bool false]]::XL::X1::(XS.eraseIdx i).flatten::R) x) (fun j=>c-j) 0 (⟨X0,Tv _,hbuf.forget,hF.keep [7,0,1,5,6] rfl,hA7⟩) ?_
  clear hF
  rintro j a w9 ⟨X1,hj,hbj,hF,hA8⟩
  apply wp_seq_k; intro K11 hK11
  refine wS hF fun K12 hK12=>vX O<|vX O<|vV O (aY O TC O O)<|vV O (aH O O O O O)<|vE hK12 fun a hF=>?_
  clear hK12 K12
  by_cases hltj:j<c
  ·refine aZ hF O (dB ag) ?_
   obtain ⟨g1,B1,Z1,rfl,rfl,hWl,hZl,hnx⟩:=hbj.opens hltj
   apply wp_skip
   refine hK11 _ _ ?_; clear  hK11 K11
   apply wp_seq_k; intro K13 hK13
   apply wp_block
   refine wp_region_lit ?_
   refine vR hF<|vX O<|vX O<|vX O<|vX O<|vX O fun a hF=>?_
   refine au O (fun K hK=>qW hF O ae hcf rfl rfl rfl ?_)
   with_reducible refine (hmark i j ([row bb BT [p0,p1,p2,p3,p4,p5,p6,.slice (some ⟨gL,oL,none⟩) ks.length cL,.slice AW ks.length cW,.int .i64 held,.bool false]]::XL::[row g1 5 (B1++cel cB (mkL (mv i) j)++Z1)]::(XS.eraseIdx i).flatten::R) _ ag ag hA8).mono ?_
   rintro e' w10 ⟨rfl,hA11⟩
   refine ⟨_,rfl,fun a hF=>hK _ _ ?_⟩
   clear hK K
   refine vR hF<|vV O (bi O TC D5 rfl rfl j rfl hltj (ad2 _ _ _)) fun a hF=>?_
   refine au O (fun K hK=>aW hF O O hA11 O O 2 O (by rw [List.length_append,List.length_append,hWl]; omega) rfl D5 (fun w12 hA13=>hK _ _ ?_))
   clear hK K
   replace hA13:Hp w0 ([row bb BT [p0,p1,p2,p3,p4,p5,p6,.slice (some ⟨gL,oL,none⟩) ks.length cL,.slice AW ks.length cW,.int .i64 held,.bool false]]::XL::[row g1 5 ((B1++cel cB (mkL (mv i) j)++Z1).set (B1.length+j) (.int .u8 ((mv i j).toNat:Int)))]::(XS.eraseIdx i).flatten::R) w12:=hA13
   have hA14:Hp w0 ([row bb BT [p0,p1,p2,p3,p4,p5,p6,.slice (some ⟨gL,oL,none⟩) ks.length cL,.slice AW ks.length cW,.int .i64 held,.bool false]]::XL::[row g1 5 (B1++cel cB (mkL (mv i) j)++(cB (mv i j)++Z1.drop 1))]::(XS.eraseIdx i).flatten::R) w12:=by
    have hsm:=set_mid (B:=B1) (Z:=Z1) (u:= .int .u8 ((mv i j).toNat:Int)) (hWl.trans (Nat.mul_one _)) hZl
    rw [hsm] at hA13; exact hA13
   refine az<|hK13 _ _ ?_
   clear hK13 K13
   refine wp_region_lit ?_
   refine vR hF<|vX O<|vV O (bH O O O (TB _ ag))<|vX O fun a hF=>?_
   refine az ?_
   exact ⟨j+1,ag,_,ag,(by rw [NM]; exact hnx _ (hml i j)),hF.keep [7,0,1,5,6] rfl,hA14⟩
  ·refine aS hF O (dD ag) ?_
   have hjc:j=c:=by omega
   rw [hjc] at hbj
   apply wp_exit
   refine hK8 _ _ ?_; clear hK11 K11 hK8 K8
   refine wp_region_lit ?_
   refine vR hF<|vX O<|vV O (bH O O O (TB _ ag))<|vX O fun a hF=>?_
   refine az ?_
   have hA15:=Hp.inX hA8 (by rw [hap.1]; exact hlt)
   exact ⟨i+1,ag,_,ag,hap.step hk0 ⟨A,c,ev,hbj⟩,hF.keep [5,0,1] rfl,hA15⟩
 ·refine aS hF O (dD ag) ?_
  have hie:i=ks.length:=by omega
  rw [hie] at hap
  apply wp_exit
  refine hK4 _ _ ?_; clear hK6 K6 hK4 K4
  apply wp_seq_k; intro K14 hK14
  refine wS hF fun K15 hK15=>vX O<|vE hK15 fun a hF=>?_
  clear hK15 K15
  apply wp_block
  refine bQ (G:=Nat) (fun i a x=>i≤ks.length∧Fr 101 [(8,.int .i64 (i:Int)),(0,.pointer (some ⟨bb,7,none⟩)),(1,.func (.func fm) #[] #[])] a∧Hp w0 ([row bb BT [p0,p1,p2,p3,p4,p5,p6,.slice AL ks.length cL,.slice AW ks.length cW,.int .i64 held,.bool false]]::XL::XS.flatten::R) x) (fun i=>ks.length-i) 0 (⟨Tv _,hF.keep [8,0,1] rfl,hA4⟩) ?_
  clear hF
  rintro i a w17 ⟨hi2,hF,hA16⟩
  apply wp_seq_k; intro K16 hK16
  refine wS hF fun K17 hK17=>vX O<|vX O<|vX O<|vV O (yf 7 O TK O dO O)<|vV O (aX O hA16.q O 0 O O fU)<|vV O (aY O TL O O)<|vV O (aH O O O O O)<|vE hK17 fun a hF=>?_
  clear hK17 K17
  by_cases hlt:i<ks.length
  ·refine aZ hF O (dB ag) ?_
   clear hie
   obtain ⟨k0,X0,hk0,hX0,hm,_⟩:=hap.at hlt
   obtain ⟨A,c,ev,hbm⟩:=hm hlt
   obtain ⟨A',c',e',_,hcap2,hrc⟩:=hbm.rcIn (w0:=w0) (R:=[XS.flatten]) (fun r hr=>List.mem_flatten.2 ⟨X0,List.mem_of_getElem? hX0,hr⟩) (TF ..)
   injection e' with e' _ e''
   subst e' e''
   obtain ⟨gL,oL,eAL,hcc1⟩:=hc1.ne (i:=i) (by rw [List.length_map]; exact hlt)
   subst eAL
   apply wp_skip
   refine hK16 _ _ ?_; clear  hK16 K16
   apply wp_seq_k; intro K18 hK18
   apply wp_block
   apply wp_seq_k; intro K19 hK19
   refine ak 16 [16] [0,1,2,3,4,5,6,7,8,9,10,11,12,13,14,15,16] _ af af (Hq.drew hA16.q) ?_
   have hA18:=Hl.drew hA16
   refine pR hF<|pX O O<|pX O O<|pW O O (fun _=>yf 7 O TK O dO O)<|pV O O (fun x hx=>aX O hx O 0 O O fU)<|pX O O<|pW O O (fun _=>bi O TL mY O O i rfl hlt (ad2 _ _ _))<|pV O O (fun x hx=>bD (u:= .slice A k0.l.length c) rfl (Hq.sub hx (fun x hx=>by rw [List.mem_singleton] at hx; subst hx; simp)) O hcc1 i (by rw [List.length_map]; exact hlt) rfl (by rw [List.getElem?_map,hk0]; exact congrArg some ev) ny) fun a hF=>?_
   refine pR hF<|pX O O<|pX O O<|pW O O (fun _=>yf 7 O TK O dO O)<|pV O O (fun x hx=>aX O hx O 0 O O fU)<|pX O O<|pW O O (fun _=>bi O TL mY O O i rfl hlt (ad2 _ _ _))<|pV O O (fun x hx=>bD (u:= .slice A k0.l.length c) rfl (Hq.sub hx (fun x hx=>by rw [List.mem_singleton] at hx; subst hx; simp)) O hcc1 i (by rw [List.length_map]; exact hlt) rfl (by rw [List.getElem?_map,hk0]; exact congrArg some ev) ny) fun a hF=>?_
   refine pR hF<|pW O O (fun _=>kL O TC O)<|pW O O (fun _=>ed O TC D5 rfl (.none 0) (.some rfl rfl) (Tv _) (TG _) dU) fun a hF=>?_
   refine bY hF O O O O ae _ (bJ O O) (fun h=>absurd h ae) (fun a hF=>?_)
   refine aB ?_
   refine hK19 _ _ ?_; clear  hK19 K19
   refine wS hF fun K20 hK20=>vX O<|vE hK20 fun a hF=>?_
   clear hK20 K20
   apply wp_block
   refine bQ (G:=Nat) (fun j a x=>j≤c∧Fr 101 [(10,.int .i64 (j:Int)),(0,.pointer (some ⟨bb,7,none⟩)),(1,.func (.func fm) #[] #[]),(8,.int .i64 (i:Int)),(9,.slice A c c)] a∧Hp w0 ([row bb BT [p0,p1,p2,p3,p4,p5,p6,.slice (some ⟨gL,oL,none⟩) ks.length cL,.slice AW ks.length cW,.int .i64 held,.bool false]]::XL::XS.flatten::R) x) (fun j=>c-j) 0 (⟨Tv _,hF.keep [10,0,1,8,9] rfl,hA18⟩) ?_
   clear hF
   rintro j a w20 ⟨hj,hF,hA19⟩
   apply wp_seq_k; intro K21 hK21
   refine wS hF fun K22 hK22=>vX O<|vX O<|vV O (aY O TC O O)<|vV O (aH O O O O O)<|vE hK22 fun a hF=>?_
   clear hK22 K22
   by_cases hltj:j<c
   ·refine aZ hF O (dB ag) ?_
    obtain ⟨hd1,hd2⟩:=Qm (u:= .int .u8 ((mv i j).toNat:Int)) (Gx (hml i) c) (MF (mv i) hltj) rfl
    obtain ⟨b,o,rfl,hc⟩:=hrc.ne (i:=j) hd2
    apply wp_skip
    refine hK21 _ _ ?_; clear  hK21 K21
    apply wp_seq_k; intro K23 hK23
    apply wp_block
    apply wp_seq_k; intro K24 hK24
    refine ak 8 [7,8] [0,1,2,3,4,5,6,7,8] _ af af (Hq.drew hA19.q) ?_
    have hA21:=Hl.drew hA19
    refine pR hF<|pX O O<|pX O O<|pW O O (fun _=>bi O TC D5 rfl rfl j rfl hltj (ad2 _ _ _))<|pV O O (fun x hx=>bD (u:= .int .u8 ((mv i j).toNat:Int)) O (Hq.sub hx (fun x hx=>by rw [List.mem_singleton] at hx; subst hx; simp)) O hc j hd2 rfl hd1 Aq) fun a hF=>?_
    refine pR hF<|pX O O<|pX O O<|pX O O fun a hF=>?_
    refine bM O O O (fun K hK=>qW hF O ae hcf rfl rfl rfl ?_)
    with_reducible refine (hmark i j ([row bb BT [p0,p1,p2,p3,p4,p5,p6,.slice (some ⟨gL,oL,none⟩) ks.length cL,.slice AW ks.length cW,.int .i64 held,.bool false]]::XL::XS.flatten::R) _ ag ag hA21).mono ?_
    rintro e' w22 ⟨rfl,hA23⟩
    refine ⟨_,rfl,fun a hF=>hK _ _ (fun _=>?_) ?_⟩
    ·exact hA23.q
    clear hK K
    replace hA23:Hp w0 ([row bb BT [p0,p1,p2,p3,p4,p5,p6,.slice (some ⟨gL,oL,none⟩) ks.length cL,.slice AW ks.length cW,.int .i64 held,.bool false]]::XL::XS.flatten::R) w22:=hA23
    refine bY hF O O O O ae _ (aH O O O O (jb rfl)) (fun h=>absurd h ae) (fun a hF=>?_)
    refine aB ?_
    refine hK24 _ _ ?_; clear  hK24 K24
    refine dL hF O ?_
    apply wp_skip
    refine hK23 _ _ ?_; clear  hK23 K23
    refine wp_region_lit ?_
    refine vR hF<|vX O<|vV O (bH O O O (TB _ ag))<|vX O fun a hF=>?_
    refine az ?_
    exact ⟨j+1,ag,ag,hF.keep [10,0,1,8,9] rfl,hA23⟩
   ·refine aS hF O (dD ag) ?_
    apply wp_exit
    refine hK18 _ _ ?_; clear hK21 K21 hK18 K18
    refine wp_region_lit ?_
    refine vR hF<|vX O<|vV O (bH O O O (TB _ ag))<|vX O fun a hF=>?_
    refine az ?_
    exact ⟨i+1,ag,ag,hF.keep [8,0,1] rfl,hA19⟩
  ·refine aS hF O (dD ag) ?_
   apply wp_exit
   refine hK14 _ _ ?_; clear hK16 K16 hK14 K14
   refine wS hF fun K25 hK25=>vX O<|vX O<|vV O (yf 7 O TK O dO O) fun a hF=>?_
   refine au O (fun K hK=>aW hF O O hA16 O O 0 O (by simp) rfl dO (fun w24 hA25=>hK _ _ ?_))
   clear hK K
   replace hA25:Hp w0 ([row bb BT [p0,p1,p2,p3,p4,p5,p6,.slice none 0 0,.slice AW ks.length cW,.int .i64 held,.bool false]]::XL::XS.flatten::R) w24:=hA25
   refine az<|hK25 _ _ ?_
   clear hK25 K25
   refine wS hF fun K26 hK26=>vX O<|vX O<|vV O (yf 8 O TK O dO O) fun a hF=>?_
   refine au O (fun K hK=>aW hF O O hA25 O O 0 O (by simp) rfl dO (fun w26 hA27=>hK _ _ ?_))
   clear hK K
   replace hA27:Hp w0 ([row bb BT [p0,p1,p2,p3,p4,p5,p6,.slice none 0 0,.slice none 0 0,.int .i64 held,.bool false]]::XL::XS.flatten::R) w26:=hA27
   refine az<|hK26 _ _ ?_
   clear hK26 K26
   refine wS hF fun K27 hK27=>vX O<|vX O<|vV O (yf 9 O TK O gu O) fun a hF=>?_
   refine au O (fun K hK=>aW hF O O hA27 O O 0 O (by simp) rfl gu (fun w28 hA29=>hK _ _ ?_))
   clear hK K
   replace hA29:Hp w0 ([row bb BT [p0,p1,p2,p3,p4,p5,p6,.slice none 0 0,.slice none 0 0,.int .i64 0,.bool false]]::XL::XS.flatten::R) w28:=hA29
   refine az<|hK27 _ _ ?_
   clear hK27 K27
   refine wS hF fun K28 hK28=>vX O<|vE hK28 fun a hF=>?_
   clear hK28 K28
   apply wp_ret
   refine aO hF Tryz.results14 O ?_
   have hA30:Hp w0 ([row bb BT [p0,p1,p2,p3,p4,p5,p6,.slice none 0 0,.slice none 0 0,.int .i64 0,.bool false]]::R) w28:=hpS 3 [0] [1,2] hA29 rfl
   exact ⟨rfl,hA30⟩
theorem qi {p0 p1 p2 q0 q1 q2 q3 lv wv:Value} {BT:TypeId} {held:Int} (w0 w:World) (R:List Seg) (bb fm:Nat) (ks:List (KeptX (List UInt8))) (Y:Seg) (mv:Nat→Nat→List UInt8) (hml:∀ i j,(dc (mv i j)).length=32) (hcf:aG Tryz.prog fm) (hmark:∀ (i j:Nat) (S:List Seg) (x:World),i<4000→j<9223372036854775807→Hp w0 S x→Calls Tryz.prog fm #[.int .i64 (i:Int),.int .i64 (j:Int)] x fun e x'=>e= .returned (.agg (dc (mv i j)).toArray)∧Hp w0 S x') (hb:BookV dc 28 25 32 ks lv wv Y) (hA:Hp w0 ([row bb BT [p0,p1,p2,lv,wv,.int .i64 held,.bool false,q0,q1,q2,q3]]::Y::R) w):Calls Tryz.prog 12 #[.pointer (some ⟨bb,3,none⟩),.func (.func fm) #[] #[]] w fun e w'=>e= .returned (.bool true)∧Hp w0 ([row bb BT [p0,p1,p2,.slice none 0 0,.slice none 0 0,.int .i64 0,.bool false,q0,q1,q2,q3]]::R) w':=by
 refine aJ Tryz.func12 O Tryz.ntmps12 ai (fun a hF=>?_)
 refine wS hF fun K1 hK1=>vX O<|vE hK1 fun a hF=>?_
 clear hK1 K1
 apply wp_seq_k; intro K2 hK2
 refine wS hF fun K3 hK3=>vX O fun a hF=>?_
 refine au O (fun K hK=>ax hF O ae Qj rfl rfl ?_)
 with_reducible refine (lD w0 _ R bb ks Y hb hA).mono ?_
 rintro e' w1 ⟨rfl,hA2⟩
 refine ⟨_,rfl,fun a hF=>hK _ _ ?_⟩
 clear hK K
 replace hA2:Hp w0 ([row bb BT [p0,p1,p2,lv,wv,.int .i64 held,.bool false,q0,q1,q2,q3]]::Y::R) w1:=hA2
 refine vR hF<|vV O (eU O O O)<|vE hK3 fun a hF=>?_
 clear hK3 K3
 refine dL hF O ?_
 apply wp_skip
 refine hK2 _ _ ?_; clear  hK2 K2
 apply wp_seq_k; intro K4 hK4
 refine wS hF fun K5 hK5=>vX O<|vE hK5 fun a hF=>?_
 clear hK5 K5
 apply wp_block
 obtain ⟨hn4,XL,XW,hL,hW,hK,rfl⟩:=hb
 obtain ⟨AL,cL,rfl,hcL⟩:=hL.slice
 obtain ⟨AW,cW,rfl,hcW⟩:=hW.slice
 obtain ⟨_,_,f1,_,hc1⟩:=hL.rc (w0:=w0) (R:=[XL]) (TF ..)
 injection f1 with f1 _ _
 subst f1
 have hA3:=Hp.bookX hA2
 refine bQ (G:=Nat) (fun i a x=>∃ (XS:List Seg),i≤ks.length∧ApS dc 25 32 mv ks i XS∧Fr 101 [(5,.int .i64 (i:Int)),(0,.pointer (some ⟨bb,3,none⟩)),(1,.func (.func fm) #[] #[])] a∧Hp w0 ([row bb BT [p0,p1,p2,.slice AL ks.length cL,.slice AW ks.length cW,.int .i64 held,.bool false,q0,q1,q2,q3]]::XL::XS.flatten::R) x) (fun i=>ks.length-i) 0 (⟨ks.map (·.X),Tv _,ApS.new hK,hF.keep [5,0,1] rfl,hA3⟩) ?_
 clear hF
 rintro i a w5 ⟨XS,hi,hap,hF,hA4⟩
 apply wp_seq_k; intro K6 hK6
 refine wS hF fun K7 hK7=>vX O<|vX O<|vX O<|vV O (yf 3 O TM O dP O)<|vV O (aX O hA4.q O 0 O O fV)<|vV O (aY O TN O O)<|vV O (aH O O O O O)<|vE hK7 fun a hF=>?_
 clear hK7 K7
 by_cases hlt:i<ks.length
 ·refine aZ hF O (dB ag) ?_
  obtain ⟨k0,X0,hk0,hX0,_,hbuf⟩:=hap.at hlt
  replace hbuf:=hbuf (TG _)
  obtain ⟨A,c,ev,hcap1,hcap2⟩:=hbuf.cap
  rw [ev] at hbuf
  have hA6:=Hp.outX hA4 hX0
  obtain ⟨gL,oL,eAL,hcc1⟩:=hc1.ne (i:=i) (by rw [List.length_map]; exact hlt)
  subst eAL
  apply wp_skip
  refine hK6 _ _ ?_; clear  hK6 K6
  apply wp_seq_k; intro K8 hK8
  apply wp_block
  apply wp_seq_k; intro K9 hK9
  refine ak 16 [16] [0,1,2,3,4,5,6,7,8,9,10,11,12,13,14,15,16] _ af af (Hq.drew hA6.q) ?_
  have hA7:=Hl.drew hA6
  refine pR hF<|pX O O<|pX O O<|pW O O (fun _=>yf 3 O TM O dP O)<|pV O O (fun x hx=>aX O hx O 0 O O fV)<|pX O O<|pW O O (fun _=>bi O TN mZ O O i rfl hlt (ad2 _ _ _))<|pV O O (fun x hx=>bD (u:= .slice A k0.l.length c) rfl (Hq.sub hx (fun x hx=>by rw [List.mem_singleton] at hx; subst hx; simp)) O hcc1 i (by rw [List.length_map]; exact hlt) rfl (by rw [List.getElem?_map,hk0]; exact congrArg some ev) nz) fun a hF=>?_
  refine pR hF<|pX O O<|pX O O<|pW O O (fun _=>yf 3 O TM O dP O)<|pV O O (fun x hx=>aX O hx O 0 O O fV)<|pX O O<|pW O O (fun _=>bi O TN mZ O O i rfl hlt (ad2 _ _ _))<|pV O O (fun x hx=>bD (u:= .slice A k0.l.length c) rfl (Hq.sub hx (fun x hx=>by rw [List.mem_singleton] at hx; subst hx; simp)) O hcc1 i (by rw [List.length_map]; exact hlt) rfl (by rw [List.getElem?_map,hk0]; exact congrArg some ev) nz) fun a hF=>?_
  refine pR hF<|pW O O (fun _=>kL O Tu O)<|pW O O (fun _=>ed O Tu uX O (.none 0) (.some rfl rfl) (Tv _) (TG _) dU) fun a hF=>?_
  refine bY hF O O O O ae _ (bJ O O) (fun h=>absurd h ae) (fun a hF=>?_)
  refine aB ?_
  refine hK9 _ _ ?_; clear  hK9 K9
  refine wS hF fun K10 hK10=>vX O<|vE hK10 fun a hF=>?_
  clear hK10 K10
  apply wp_block
  refine bQ (G:=Nat) (fun j a x=>∃ (X1:Seg),j≤c∧Buf 25 32 X1 (.slice A j c) j (cel dc (mkL (mv i) j))∧Fr 101 [(7,.int .i64 (j:Int)),(0,.pointer (some ⟨bb,3,none⟩)),(1,.func (.func fm) #[] #[]),(5,.int .i64 (i:Int)),(6,.slice A c c)] a∧Hp w0 ([row bb BT [p0,p1,p2,.slice (some ⟨gL,oL,none⟩) ks.length cL,.slice AW ks.length cW,.int .i64 held,.bool false,q0,q1,q2,q3]]::XL::X1::(XS.eraseIdx i).flatten::R) x) (fun j=>c-j) 0 (⟨X0,Tv _,hbuf.forget,hF.keep [7,0,1,5,6] rfl,hA7⟩) ?_
  clear hF
  rintro j a w9 ⟨X1,hj,hbj,hF,hA8⟩
  apply wp_seq_k; intro K11 hK11
  refine wS hF fun K12 hK12=>vX O<|vX O<|vV O (aY O Tu O O)<|vV O (aH O O O O O)<|vE hK12 fun a hF=>?_
  clear hK12 K12
  by_cases hltj:j<c
  ·refine aZ hF O (dB ag) ?_
   obtain ⟨g1,B1,Z1,rfl,rfl,hWl,hZl,hnx⟩:=hbj.opens hltj
   apply wp_skip
   refine hK11 _ _ ?_; clear  hK11 K11
   apply wp_seq_k; intro K13 hK13
   apply wp_block
   refine wp_region_lit ?_
   refine vR hF<|vX O<|vX O<|vX O<|vX O<|vX O fun a hF=>?_
   refine au O (fun K hK=>qW hF O ae hcf rfl rfl rfl ?_)
   with_reducible refine (hmark i j ([row bb BT [p0,p1,p2,.slice (some ⟨gL,oL,none⟩) ks.length cL,.slice AW ks.length cW,.int .i64 held,.bool false,q0,q1,q2,q3]]::XL::[row g1 25 (B1++cel dc (mkL (mv i) j)++Z1)]::(XS.eraseIdx i).flatten::R) _ ag ag hA8).mono ?_
   rintro e' w10 ⟨rfl,hA11⟩
   refine ⟨_,rfl,fun a hF=>hK _ _ ?_⟩
   clear hK K
   refine vR hF<|vV O (bi O Tu uX O O j rfl hltj rfl) fun a hF=>?_
   refine au O (fun K hK=>dE (new:=dc (mv i j)) hF O O hA11 O O 2 O (by rw [List.length_append,List.length_append,hWl,hml]; omega) (bz _) (by rw [hml]; exact uX) (fun w12 hA13=>hK _ _ ?_))
   clear hK K
   replace hA13:Hp w0 ([row bb BT [p0,p1,p2,.slice (some ⟨gL,oL,none⟩) ks.length cL,.slice AW ks.length cW,.int .i64 held,.bool false,q0,q1,q2,q3]]::XL::[row g1 25 (splice (B1++cel dc (mkL (mv i) j)++Z1) (B1.length+j*32) (dc (mv i j)))]::(XS.eraseIdx i).flatten::R) w12:=hA13
   have hA14:Hp w0 ([row bb BT [p0,p1,p2,.slice (some ⟨gL,oL,none⟩) ks.length cL,.slice AW ks.length cW,.int .i64 held,.bool false,q0,q1,q2,q3]]::XL::[row g1 25 (B1++cel dc (mkL (mv i) j)++(dc (mv i j)++Z1.drop 32))]::(XS.eraseIdx i).flatten::R) w12:=by
    have hsm:=En (B:=B1) (Z:=Z1) (u:=dc (mv i j)) hWl
    rw [hml] at hsm
    rw [hsm] at hA13; exact hA13
   refine az<|hK13 _ _ ?_
   clear hK13 K13
   refine wp_region_lit ?_
   refine vR hF<|vX O<|vV O (bH O O O (TB _ ag))<|vX O fun a hF=>?_
   refine az ?_
   exact ⟨j+1,ag,_,ag,(by rw [NM]; exact hnx _ (hml i j)),hF.keep [7,0,1,5,6] rfl,hA14⟩
  ·refine aS hF O (dD ag) ?_
   have hjc:j=c:=by omega
   rw [hjc] at hbj
   apply wp_exit
   refine hK8 _ _ ?_; clear hK11 K11 hK8 K8
   refine wp_region_lit ?_
   refine vR hF<|vX O<|vV O (bH O O O (TB _ ag))<|vX O fun a hF=>?_
   refine az ?_
   have hA15:=Hp.inX hA8 (by rw [hap.1]; exact hlt)
   exact ⟨i+1,ag,_,ag,hap.step hk0 ⟨A,c,ev,hbj⟩,hF.keep [5,0,1] rfl,hA15⟩
 ·refine aS hF O (dD ag) ?_
  have hie:i=ks.length:=by omega
  rw [hie] at hap
  apply wp_exit
  refine hK4 _ _ ?_; clear hK6 K6 hK4 K4
  apply wp_seq_k; intro K14 hK14
  refine wS hF fun K15 hK15=>vX O<|vE hK15 fun a hF=>?_
  clear hK15 K15
  apply wp_block
  refine bQ (G:=Nat) (fun i a x=>i≤ks.length∧Fr 101 [(8,.int .i64 (i:Int)),(0,.pointer (some ⟨bb,3,none⟩)),(1,.func (.func fm) #[] #[])] a∧Hp w0 ([row bb BT [p0,p1,p2,.slice AL ks.length cL,.slice AW ks.length cW,.int .i64 held,.bool false,q0,q1,q2,q3]]::XL::XS.flatten::R) x) (fun i=>ks.length-i) 0 (⟨Tv _,hF.keep [8,0,1] rfl,hA4⟩) ?_
  clear hF
  rintro i a w17 ⟨hi2,hF,hA16⟩
  apply wp_seq_k; intro K16 hK16
  refine wS hF fun K17 hK17=>vX O<|vX O<|vX O<|vV O (yf 3 O TM O dP O)<|vV O (aX O hA16.q O 0 O O fV)<|vV O (aY O TN O O)<|vV O (aH O O O O O)<|vE hK17 fun a hF=>?_
  clear hK17 K17
  by_cases hlt:i<ks.length
  ·refine aZ hF O (dB ag) ?_
   clear hie
   obtain ⟨k0,X0,hk0,hX0,hm,_⟩:=hap.at hlt
   obtain ⟨A,c,ev,hbm⟩:=hm hlt
   obtain ⟨A',c',e',_,hcap2,hrc⟩:=hbm.rcIn (w0:=w0) (R:=[XS.flatten]) (fun r hr=>List.mem_flatten.2 ⟨X0,List.mem_of_getElem? hX0,hr⟩) (TF ..)
   injection e' with e' _ e''
   subst e' e''
   obtain ⟨gL,oL,eAL,hcc1⟩:=hc1.ne (i:=i) (by rw [List.length_map]; exact hlt)
   subst eAL
   apply wp_skip
   refine hK16 _ _ ?_; clear  hK16 K16
   apply wp_seq_k; intro K18 hK18
   apply wp_block
   apply wp_seq_k; intro K19 hK19
   refine ak 16 [16] [0,1,2,3,4,5,6,7,8,9,10,11,12,13,14,15,16] _ af af (Hq.drew hA16.q) ?_
   have hA18:=Hl.drew hA16
   refine pR hF<|pX O O<|pX O O<|pW O O (fun _=>yf 3 O TM O dP O)<|pV O O (fun x hx=>aX O hx O 0 O O fV)<|pX O O<|pW O O (fun _=>bi O TN mZ O O i rfl hlt (ad2 _ _ _))<|pV O O (fun x hx=>bD (u:= .slice A k0.l.length c) rfl (Hq.sub hx (fun x hx=>by rw [List.mem_singleton] at hx; subst hx; simp)) O hcc1 i (by rw [List.length_map]; exact hlt) rfl (by rw [List.getElem?_map,hk0]; exact congrArg some ev) nz) fun a hF=>?_
   refine pR hF<|pX O O<|pX O O<|pW O O (fun _=>yf 3 O TM O dP O)<|pV O O (fun x hx=>aX O hx O 0 O O fV)<|pX O O<|pW O O (fun _=>bi O TN mZ O O i rfl hlt (ad2 _ _ _))<|pV O O (fun x hx=>bD (u:= .slice A k0.l.length c) rfl (Hq.sub hx (fun x hx=>by rw [List.mem_singleton] at hx; subst hx; simp)) O hcc1 i (by rw [List.length_map]; exact hlt) rfl (by rw [List.getElem?_map,hk0]; exact congrArg some ev) nz) fun a hF=>?_
   refine pR hF<|pW O O (fun _=>kL O Tu O)<|pW O O (fun _=>ed O Tu uX O (.none 0) (.some rfl rfl) (Tv _) (TG _) dU) fun a hF=>?_
   refine bY hF O O O O ae _ (bJ O O) (fun h=>absurd h ae) (fun a hF=>?_)
   refine aB ?_
   refine hK19 _ _ ?_; clear  hK19 K19
   refine wS hF fun K20 hK20=>vX O<|vE hK20 fun a hF=>?_
   clear hK20 K20
   apply wp_block
   refine bQ (G:=Nat) (fun j a x=>j≤c∧Fr 101 [(10,.int .i64 (j:Int)),(0,.pointer (some ⟨bb,3,none⟩)),(1,.func (.func fm) #[] #[]),(8,.int .i64 (i:Int)),(9,.slice A c c)] a∧Hp w0 ([row bb BT [p0,p1,p2,.slice (some ⟨gL,oL,none⟩) ks.length cL,.slice AW ks.length cW,.int .i64 held,.bool false,q0,q1,q2,q3]]::XL::XS.flatten::R) x) (fun j=>c-j) 0 (⟨Tv _,hF.keep [10,0,1,8,9] rfl,hA18⟩) ?_
   clear hF
   rintro j a w20 ⟨hj,hF,hA19⟩
   apply wp_seq_k; intro K21 hK21
   refine wS hF fun K22 hK22=>vX O<|vX O<|vV O (aY O Tu O O)<|vV O (aH O O O O O)<|vE hK22 fun a hF=>?_
   clear hK22 K22
   by_cases hltj:j<c
   ·refine aZ hF O (dB ag) ?_
    obtain ⟨hd1,hd2⟩:=xZ (Gx (hml i) c) (MF (mv i) hltj)
    obtain ⟨b,o,rfl,hc⟩:=hrc.ne (i:=j*32) ag
    have hyl:(mv i j).length=32:=by rw [← aj]; exact hml i j
    apply wp_skip
    refine hK21 _ _ ?_; clear  hK21 K21
    apply wp_seq_k; intro K23 hK23
    apply wp_block
    apply wp_seq_k; intro K24 hK24
    refine ak 8 [7,8] [0,1,2,3,4,5,6,7,8] _ af af (Hq.drew hA19.q) ?_
    have hA21:=Hl.drew hA19
    refine pR hF<|pX O O<|pX O O<|pW O O (fun _=>bi O Tu uX O O j rfl hltj rfl)<|pV O O (fun x hx=>aQ (new:=dc (mv i j)) O (Hq.sub hx (fun x hx=>by rw [List.mem_singleton] at hx; subst hx; simp)) O hc (j*32) hd2 rfl hd1 vw) fun a hF=>?_
    refine pR hF<|pX O O<|pX O O<|pX O O fun a hF=>?_
    refine bM O O O (fun K hK=>qW hF O ae hcf rfl rfl rfl ?_)
    with_reducible refine (hmark i j ([row bb BT [p0,p1,p2,.slice (some ⟨gL,oL,none⟩) ks.length cL,.slice AW ks.length cW,.int .i64 held,.bool false,q0,q1,q2,q3]]::XL::XS.flatten::R) _ ag ag hA21).mono ?_
    rintro e' w22 ⟨rfl,hA23⟩
    refine ⟨_,rfl,fun a hF=>hK _ _ (fun _=>?_) ?_⟩
    ·exact hA23.q
    clear hK K
    replace hA23:Hp w0 ([row bb BT [p0,p1,p2,.slice (some ⟨gL,oL,none⟩) ks.length cL,.slice AW ks.length cW,.int .i64 held,.bool false,q0,q1,q2,q3]]::XL::XS.flatten::R) w22:=hA23
    refine bY hF O O O O ae _ (kS (X:=mv i j) (Y:=mv i j) (c:=false) rfl Tz TA D5 af rfl rfl hyl hyl (Me rfl)) (fun h=>absurd h ae) (fun a hF=>?_)
    refine aB ?_
    refine hK24 _ _ ?_; clear  hK24 K24
    refine dL hF O ?_
    apply wp_skip
    refine hK23 _ _ ?_; clear  hK23 K23
    refine wp_region_lit ?_
    refine vR hF<|vX O<|vV O (bH O O O (TB _ ag))<|vX O fun a hF=>?_
    refine az ?_
    exact ⟨j+1,ag,ag,hF.keep [10,0,1,8,9] rfl,hA23⟩
   ·refine aS hF O (dD ag) ?_
    apply wp_exit
    refine hK18 _ _ ?_; clear hK21 K21 hK18 K18
    refine wp_region_lit ?_
    refine vR hF<|vX O<|vV O (bH O O O (TB _ ag))<|vX O fun a hF=>?_
    refine az ?_
    exact ⟨i+1,ag,ag,hF.keep [8,0,1] rfl,hA19⟩
  ·refine aS hF O (dD ag) ?_
   apply wp_exit
   refine hK14 _ _ ?_; clear hK16 K16 hK14 K14
   refine wS hF fun K25 hK25=>vX O<|vX O<|vV O (yf 3 O TM O dP O) fun a hF=>?_
   refine au O (fun K hK=>aW hF O O hA16 O O 0 O (by simp) rfl dP (fun w24 hA25=>hK _ _ ?_))
   clear hK K
   replace hA25:Hp w0 ([row bb BT [p0,p1,p2,.slice none 0 0,.slice AW ks.length cW,.int .i64 held,.bool false,q0,q1,q2,q3]]::XL::XS.flatten::R) w24:=hA25
   refine az<|hK25 _ _ ?_
   clear hK25 K25
   refine wS hF fun K26 hK26=>vX O<|vX O<|vV O (yf 4 O TM O dP O) fun a hF=>?_
   refine au O (fun K hK=>aW hF O O hA25 O O 0 O (by simp) rfl dP (fun w26 hA27=>hK _ _ ?_))
   clear hK K
   replace hA27:Hp w0 ([row bb BT [p0,p1,p2,.slice none 0 0,.slice none 0 0,.int .i64 held,.bool false,q0,q1,q2,q3]]::XL::XS.flatten::R) w26:=hA27
   refine az<|hK26 _ _ ?_
   clear hK26 K26
   refine wS hF fun K27 hK27=>vX O<|vX O<|vV O (yf 5 O TM O gu O) fun a hF=>?_
   refine au O (fun K hK=>aW hF O O hA27 O O 0 O (by simp) rfl gu (fun w28 hA29=>hK _ _ ?_))
   clear hK K
   replace hA29:Hp w0 ([row bb BT [p0,p1,p2,.slice none 0 0,.slice none 0 0,.int .i64 0,.bool false,q0,q1,q2,q3]]::XL::XS.flatten::R) w28:=hA29
   refine az<|hK27 _ _ ?_
   clear hK27 K27
   refine wS hF fun K28 hK28=>vX O<|vE hK28 fun a hF=>?_
   clear hK28 K28
   apply wp_ret
   refine aO hF Tryz.results12 O ?_
   have hA30:Hp w0 ([row bb BT [p0,p1,p2,.slice none 0 0,.slice none 0 0,.int .i64 0,.bool false,q0,q1,q2,q3]]::R) w28:=hpS 3 [0] [1,2] hA29 rfl
   exact ⟨rfl,hA30⟩
end Go.Proofs.YtpomngkcfbnjoaaGreatDoor
