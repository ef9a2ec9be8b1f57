/- The statements' books of memory: apart. -/
import Derived.Test.YtepbmdlgdaedpaaGreatDoorKc
import Derived.Test.YtepbmdlgdaedpaaGreatDoorBook1
/- The statements' books of memory: apart. -/
set_option maxRecDepth 100000
set_option maxHeartbeats 4000000
namespace Go.Proofs.YtepbmdlgdaedpaaGreatDoor
open Go.RowKit Go.Dk
theorem Gj:aK Tryz.prog 104:=⟨_,Tryz.func104,af,af⟩
theorem Gi:aK Tryz.prog 105:=⟨_,Tryz.func105,af,af⟩
theorem sK {lv wv:Value} {BT:TypeId} {held:Int} (w0 w:World) (R:List Seg) (bb fm:Nat) (ks:List (KeptX (UInt8))) (Y:Seg) (mv:Nat→Nat→UInt8) (hml:∀ i j,(cB (mv i j)).length=1) (hcf:aK Tryz.prog fm) (hmark:∀ (i j:Nat) (S:List Seg) (x:World),i<4000→j<9223372036854775807→Hp w0 S x→Calls Tryz.prog fm #[.int .i64 (i:Int),.int .i64 (j:Int)] x fun e x'=>e= .returned (.int .u8 ((mv i j).toNat:Int))∧Hp w0 S x') (hb:BookV cB 27 5 1 ks lv wv Y) (hA:Hp w0 ([row bb BT [lv,wv,.int .i64 held,.bool false]]::Y::R) w):Calls Tryz.prog 41 #[.pointer (some ⟨bb,0,none⟩),.func (.func fm) #[] #[]] w fun e w'=>e= .returned (.bool true)∧Hp w0 ([row bb BT [.slice none 0 0,.slice none 0 0,.int .i64 0,.bool false]]::R) w':=by
 refine aP Tryz.func41 O Tryz.ntmps41 ai (fun a hF=>?_)
 refine wS hF fun K1 hK1=>vX O<|vE hK1 fun a hF=>?_
 clear hK1 K1
 apply wp_seq_k; intro K2 hK2
 refine wS hF fun K3 hK3=>vX O fun a hF=>?_
 refine ax O (fun K hK=>ay hF O ae Gj rfl rfl ?_)
 with_reducible refine (sJ w0 _ R bb ks Y hb hA).mono ?_
 rintro e' w1 ⟨rfl,hA2⟩
 refine ⟨_,rfl,fun a hF=>hK _ _ ?_⟩
 clear hK K
 replace hA2:Hp w0 ([row bb BT [lv,wv,.int .i64 held,.bool false]]::Y::R) w1:=hA2
 refine vR hF<|vV O (dm O O O)<|vE hK3 fun a hF=>?_
 clear hK3 K3
 refine dn hF O ?_
 apply wp_skip
 refine hK2 _ _ ?_; clear  hK2 K2
 apply wp_seq_k; intro K4 hK4
 refine wS hF fun K5 hK5=>vX O<|vE hK5 fun a hF=>?_
 clear hK5 K5
 apply wp_block
 obtain ⟨hn4,XL,XW,hL,hW,hK,rfl⟩:=hb
 obtain ⟨AL,cL,rfl,hcL⟩:=hL.slice
 obtain ⟨AW,cW,rfl,hcW⟩:=hW.slice
 obtain ⟨_,_,f1,_,hc1⟩:=hL.rc (w0:=w0) (R:=[XL]) (Nu ..)
 injection f1 with f1 _ _
 subst f1
 have hA3:=Hp.bookX hA2
 refine bH (G:=Nat) (fun i a x=>∃ (XS:List Seg),i≤ks.length∧ApS cB 5 1 mv ks i XS∧Fr 101 [(5,.int .i64 (i:Int)),(0,.pointer (some ⟨bb,0,none⟩)),(1,.func (.func fm) #[] #[])] a∧Hp w0 ([row bb BT [.slice AL ks.length cL,.slice AW ks.length cW,.int .i64 held,.bool false]]::XL::XS.flatten::R) x) (fun i=>ks.length-i) 0 (⟨ks.map (·.X),Nl _,ApS.new hK,hF.keep [5,0,1] rfl,hA3⟩) ?_
 clear hF
 rintro i a w5 ⟨XS,hi,hap,hF,hA4⟩
 apply wp_seq_k; intro K6 hK6
 refine wS hF fun K7 hK7=>vX O<|vX O<|vX O<|vV O (yf 0 O NP O dh O)<|vV O (aU O hA4.q O 0 O O eP)<|vV O (aT O NQ O O)<|vV O (aF O O O O O)<|vE hK7 fun a hF=>?_
 clear hK7 K7
 by_cases hlt:i<ks.length
 ·refine aG hF O (dF ag) ?_
  obtain ⟨k0,X0,hk0,hX0,_,hbuf⟩:=hap.at hlt
  replace hbuf:=hbuf (Nv _)
  obtain ⟨A,c,ev,hcap1,hcap2⟩:=hbuf.cap
  rw [ev] at hbuf
  have hA6:=Hp.outX hA4 hX0
  obtain ⟨gL,oL,eAL,hcc1⟩:=hc1.ne (i:=i) (by rw [List.length_map]; exact hlt)
  subst eAL
  apply wp_skip
  refine hK6 _ _ ?_; clear  hK6 K6
  apply wp_seq_k; intro K8 hK8
  apply wp_block
  apply wp_seq_k; intro K9 hK9
  refine aQ 16 [16] [0,1,2,3,4,5,6,7,8,9,10,11,12,13,14,15,16] _ af af (Hq.drew hA6.q) ?_
  have hA7:=Hl.drew hA6
  refine pR hF<|pX O O<|pX O O<|pW O O (fun _=>yf 0 O NP O dh O)<|pV O O (fun x hx=>aU O hx O 0 O O eP)<|pX O O<|pW O O (fun _=>aY O NQ jS O O i rfl hlt (ad2 _ _ _))<|pV O O (fun x hx=>bV (u:= .slice A k0.l.length c) rfl (Hq.sub hx (fun x hx=>by rw [List.mem_singleton] at hx; subst hx; simp)) O hcc1 i (by rw [List.length_map]; exact hlt) rfl (by rw [List.getElem?_map,hk0]; exact congrArg some ev) jU) fun a hF=>?_
  refine pR hF<|pX O O<|pX O O<|pW O O (fun _=>yf 0 O NP O dh O)<|pV O O (fun x hx=>aU O hx O 0 O O eP)<|pX O O<|pW O O (fun _=>aY O NQ jS O O i rfl hlt (ad2 _ _ _))<|pV O O (fun x hx=>bV (u:= .slice A k0.l.length c) rfl (Hq.sub hx (fun x hx=>by rw [List.mem_singleton] at hx; subst hx; simp)) O hcc1 i (by rw [List.length_map]; exact hlt) rfl (by rw [List.getElem?_map,hk0]; exact congrArg some ev) jU) fun a hF=>?_
  refine pR hF<|pW O O (fun _=>ig O Nq O)<|pW O O (fun _=>dW O Nq uD O (.none 0) (.some rfl rfl) (Nl _) (Nv _) jc) fun a hF=>?_
  refine dG hF O O O O ae _ (fO O O) (fun h=>absurd h ae) (fun a hF=>?_)
  refine bI ?_
  refine hK9 _ _ ?_; clear  hK9 K9
  refine wS hF fun K10 hK10=>vX O<|vE hK10 fun a hF=>?_
  clear hK10 K10
  apply wp_block
  refine bH (G:=Nat) (fun j a x=>∃ (X1:Seg),j≤c∧Buf 5 1 X1 (.slice A j c) j (cel cB (mkL (mv i) j))∧Fr 101 [(7,.int .i64 (j:Int)),(0,.pointer (some ⟨bb,0,none⟩)),(1,.func (.func fm) #[] #[]),(5,.int .i64 (i:Int)),(6,.slice A c c)] a∧Hp w0 ([row bb BT [.slice (some ⟨gL,oL,none⟩) ks.length cL,.slice AW ks.length cW,.int .i64 held,.bool false]]::XL::X1::(XS.eraseIdx i).flatten::R) x) (fun j=>c-j) 0 (⟨X0,Nl _,hbuf.forget,hF.keep [7,0,1,5,6] rfl,hA7⟩) ?_
  clear hF
  rintro j a w9 ⟨X1,hj,hbj,hF,hA8⟩
  apply wp_seq_k; intro K11 hK11
  refine wS hF fun K12 hK12=>vX O<|vX O<|vV O (aT O Nq O O)<|vV O (aF O O O O O)<|vE hK12 fun a hF=>?_
  clear hK12 K12
  by_cases hltj:j<c
  ·refine aG hF O (dF ag) ?_
   obtain ⟨g1,B1,Z1,rfl,rfl,hWl,hZl,hnx⟩:=hbj.opens hltj
   apply wp_skip
   refine hK11 _ _ ?_; clear  hK11 K11
   apply wp_seq_k; intro K13 hK13
   apply wp_block
   refine wp_region_lit ?_
   refine vR hF<|vX O<|vX O<|vX O<|vX O<|vX O fun a hF=>?_
   refine ax O (fun K hK=>iP hF O ae hcf rfl rfl rfl ?_)
   with_reducible refine (hmark i j ([row bb BT [.slice (some ⟨gL,oL,none⟩) ks.length cL,.slice AW ks.length cW,.int .i64 held,.bool false]]::XL::[row g1 5 (B1++cel cB (mkL (mv i) j)++Z1)]::(XS.eraseIdx i).flatten::R) _ ag ag hA8).mono ?_
   rintro e' w10 ⟨rfl,hA11⟩
   refine ⟨_,rfl,fun a hF=>hK _ _ ?_⟩
   clear hK K
   refine vR hF<|vV O (aY O Nq uD O O j rfl hltj (ad2 _ _ _)) fun a hF=>?_
   refine ax O (fun K hK=>aX hF O O hA11 O O 2 O (by rw [List.length_append,List.length_append,hWl]; omega) rfl uD (fun w12 hA13=>hK _ _ ?_))
   clear hK K
   replace hA13:Hp w0 ([row bb BT [.slice (some ⟨gL,oL,none⟩) ks.length cL,.slice AW ks.length cW,.int .i64 held,.bool false]]::XL::[row g1 5 ((B1++cel cB (mkL (mv i) j)++Z1).set (B1.length+j) (.int .u8 ((mv i j).toNat:Int)))]::(XS.eraseIdx i).flatten::R) w12:=hA13
   have hA14:Hp w0 ([row bb BT [.slice (some ⟨gL,oL,none⟩) ks.length cL,.slice AW ks.length cW,.int .i64 held,.bool false]]::XL::[row g1 5 (B1++cel cB (mkL (mv i) j)++(cB (mv i j)++Z1.drop 1))]::(XS.eraseIdx i).flatten::R) w12:=by
    have hsm:=set_mid (B:=B1) (Z:=Z1) (u:= .int .u8 ((mv i j).toNat:Int)) (hWl.trans (Nat.mul_one _)) hZl
    rw [hsm] at hA13; exact hA13
   refine aH<|hK13 _ _ ?_
   clear hK13 K13
   refine wp_region_lit ?_
   refine vR hF<|vX O<|vV O (bT O O O (Np _ ag))<|vX O fun a hF=>?_
   refine aH ?_
   exact ⟨j+1,ag,_,ag,(by rw [zI]; exact hnx _ (hml i j)),hF.keep [7,0,1,5,6] rfl,hA14⟩
  ·refine au hF O (dE ag) ?_
   have hjc:j=c:=by omega
   rw [hjc] at hbj
   apply wp_exit
   refine hK8 _ _ ?_; clear hK11 K11 hK8 K8
   refine wp_region_lit ?_
   refine vR hF<|vX O<|vV O (bT O O O (Np _ ag))<|vX O fun a hF=>?_
   refine aH ?_
   have hA15:=Hp.inX hA8 (by rw [hap.1]; exact hlt)
   exact ⟨i+1,ag,_,ag,hap.step hk0 ⟨A,c,ev,hbj⟩,hF.keep [5,0,1] rfl,hA15⟩
 ·refine au hF O (dE ag) ?_
  have hie:i=ks.length:=by omega
  rw [hie] at hap
  apply wp_exit
  refine hK4 _ _ ?_; clear hK6 K6 hK4 K4
  apply wp_seq_k; intro K14 hK14
  refine wS hF fun K15 hK15=>vX O<|vE hK15 fun a hF=>?_
  clear hK15 K15
  apply wp_block
  refine bH (G:=Nat) (fun i a x=>i≤ks.length∧Fr 101 [(8,.int .i64 (i:Int)),(0,.pointer (some ⟨bb,0,none⟩)),(1,.func (.func fm) #[] #[])] a∧Hp w0 ([row bb BT [.slice AL ks.length cL,.slice AW ks.length cW,.int .i64 held,.bool false]]::XL::XS.flatten::R) x) (fun i=>ks.length-i) 0 (⟨Nl _,hF.keep [8,0,1] rfl,hA4⟩) ?_
  clear hF
  rintro i a w17 ⟨hi2,hF,hA16⟩
  apply wp_seq_k; intro K16 hK16
  refine wS hF fun K17 hK17=>vX O<|vX O<|vX O<|vV O (yf 0 O NP O dh O)<|vV O (aU O hA16.q O 0 O O eP)<|vV O (aT O NQ O O)<|vV O (aF O O O O O)<|vE hK17 fun a hF=>?_
  clear hK17 K17
  by_cases hlt:i<ks.length
  ·refine aG hF O (dF ag) ?_
   clear hie
   obtain ⟨k0,X0,hk0,hX0,hm,_⟩:=hap.at hlt
   obtain ⟨A,c,ev,hbm⟩:=hm hlt
   obtain ⟨A',c',e',_,hcap2,hrc⟩:=hbm.rcIn (w0:=w0) (R:=[XS.flatten]) (fun r hr=>List.mem_flatten.2 ⟨X0,List.mem_of_getElem? hX0,hr⟩) (Nu ..)
   injection e' with e' _ e''
   subst e' e''
   obtain ⟨gL,oL,eAL,hcc1⟩:=hc1.ne (i:=i) (by rw [List.length_map]; exact hlt)
   subst eAL
   apply wp_skip
   refine hK16 _ _ ?_; clear  hK16 K16
   apply wp_seq_k; intro K18 hK18
   apply wp_block
   apply wp_seq_k; intro K19 hK19
   refine aQ 16 [16] [0,1,2,3,4,5,6,7,8,9,10,11,12,13,14,15,16] _ af af (Hq.drew hA16.q) ?_
   have hA18:=Hl.drew hA16
   refine pR hF<|pX O O<|pX O O<|pW O O (fun _=>yf 0 O NP O dh O)<|pV O O (fun x hx=>aU O hx O 0 O O eP)<|pX O O<|pW O O (fun _=>aY O NQ jS O O i rfl hlt (ad2 _ _ _))<|pV O O (fun x hx=>bV (u:= .slice A k0.l.length c) rfl (Hq.sub hx (fun x hx=>by rw [List.mem_singleton] at hx; subst hx; simp)) O hcc1 i (by rw [List.length_map]; exact hlt) rfl (by rw [List.getElem?_map,hk0]; exact congrArg some ev) jU) fun a hF=>?_
   refine pR hF<|pX O O<|pX O O<|pW O O (fun _=>yf 0 O NP O dh O)<|pV O O (fun x hx=>aU O hx O 0 O O eP)<|pX O O<|pW O O (fun _=>aY O NQ jS O O i rfl hlt (ad2 _ _ _))<|pV O O (fun x hx=>bV (u:= .slice A k0.l.length c) rfl (Hq.sub hx (fun x hx=>by rw [List.mem_singleton] at hx; subst hx; simp)) O hcc1 i (by rw [List.length_map]; exact hlt) rfl (by rw [List.getElem?_map,hk0]; exact congrArg some ev) jU) fun a hF=>?_
   refine pR hF<|pW O O (fun _=>ig O Nq O)<|pW O O (fun _=>dW O Nq uD O (.none 0) (.some rfl rfl) (Nl _) (Nv _) jc) fun a hF=>?_
   refine dG hF O O O O ae _ (fO O O) (fun h=>absurd h ae) (fun a hF=>?_)
   refine bI ?_
   refine hK19 _ _ ?_; clear  hK19 K19
   refine wS hF fun K20 hK20=>vX O<|vE hK20 fun a hF=>?_
   clear hK20 K20
   apply wp_block
   refine bH (G:=Nat) (fun j a x=>j≤c∧Fr 101 [(10,.int .i64 (j:Int)),(0,.pointer (some ⟨bb,0,none⟩)),(1,.func (.func fm) #[] #[]),(8,.int .i64 (i:Int)),(9,.slice A c c)] a∧Hp w0 ([row bb BT [.slice (some ⟨gL,oL,none⟩) ks.length cL,.slice AW ks.length cW,.int .i64 held,.bool false]]::XL::XS.flatten::R) x) (fun j=>c-j) 0 (⟨Nl _,hF.keep [10,0,1,8,9] rfl,hA18⟩) ?_
   clear hF
   rintro j a w20 ⟨hj,hF,hA19⟩
   apply wp_seq_k; intro K21 hK21
   refine wS hF fun K22 hK22=>vX O<|vX O<|vV O (aT O Nq O O)<|vV O (aF O O O O O)<|vE hK22 fun a hF=>?_
   clear hK22 K22
   by_cases hltj:j<c
   ·refine aG hF O (dF ag) ?_
    obtain ⟨hd1,hd2⟩:=Bi (u:= .int .u8 ((mv i j).toNat:Int)) (Ah (hml i) c) (zh (mv i) hltj) rfl
    obtain ⟨b,o,rfl,hc⟩:=hrc.ne (i:=j) hd2
    apply wp_skip
    refine hK21 _ _ ?_; clear  hK21 K21
    apply wp_seq_k; intro K23 hK23
    apply wp_block
    apply wp_seq_k; intro K24 hK24
    refine aQ 8 [7,8] [0,1,2,3,4,5,6,7,8] _ af af (Hq.drew hA19.q) ?_
    have hA21:=Hl.drew hA19
    refine pR hF<|pX O O<|pX O O<|pW O O (fun _=>aY O Nq uD O O j rfl hltj (ad2 _ _ _))<|pV O O (fun x hx=>bV (u:= .int .u8 ((mv i j).toNat:Int)) O (Hq.sub hx (fun x hx=>by rw [List.mem_singleton] at hx; subst hx; simp)) O hc j hd2 rfl hd1 uX) fun a hF=>?_
    refine pR hF<|pX O O<|pX O O<|pX O O fun a hF=>?_
    refine fG O O O (fun K hK=>iP hF O ae hcf rfl rfl rfl ?_)
    with_reducible refine (hmark i j ([row bb BT [.slice (some ⟨gL,oL,none⟩) ks.length cL,.slice AW ks.length cW,.int .i64 held,.bool false]]::XL::XS.flatten::R) _ ag ag hA21).mono ?_
    rintro e' w22 ⟨rfl,hA23⟩
    refine ⟨_,rfl,fun a hF=>hK _ _ (fun _=>?_) ?_⟩
    ·exact hA23.q
    clear hK K
    replace hA23:Hp w0 ([row bb BT [.slice (some ⟨gL,oL,none⟩) ks.length cL,.slice AW ks.length cW,.int .i64 held,.bool false]]::XL::XS.flatten::R) w22:=hA23
    refine dG hF O O O O ae _ (aF O O O O (fK rfl)) (fun h=>absurd h ae) (fun a hF=>?_)
    refine bI ?_
    refine hK24 _ _ ?_; clear  hK24 K24
    refine dn hF O ?_
    apply wp_skip
    refine hK23 _ _ ?_; clear  hK23 K23
    refine wp_region_lit ?_
    refine vR hF<|vX O<|vV O (bT O O O (Np _ ag))<|vX O fun a hF=>?_
    refine aH ?_
    exact ⟨j+1,ag,ag,hF.keep [10,0,1,8,9] rfl,hA23⟩
   ·refine au hF O (dE ag) ?_
    apply wp_exit
    refine hK18 _ _ ?_; clear hK21 K21 hK18 K18
    refine wp_region_lit ?_
    refine vR hF<|vX O<|vV O (bT O O O (Np _ ag))<|vX O fun a hF=>?_
    refine aH ?_
    exact ⟨i+1,ag,ag,hF.keep [8,0,1] rfl,hA19⟩
  ·refine au hF O (dE ag) ?_
   apply wp_exit
   refine hK14 _ _ ?_; clear hK16 K16 hK14 K14
   refine wS hF fun K25 hK25=>vX O<|vX O<|vV O (yf 0 O NP O dh O) fun a hF=>?_
   refine ax O (fun K hK=>aX hF O O hA16 O O 0 O (by simp) rfl dh (fun w24 hA25=>hK _ _ ?_))
   clear hK K
   replace hA25:Hp w0 ([row bb BT [.slice none 0 0,.slice AW ks.length cW,.int .i64 held,.bool false]]::XL::XS.flatten::R) w24:=hA25
   refine aH<|hK25 _ _ ?_
   clear hK25 K25
   refine wS hF fun K26 hK26=>vX O<|vX O<|vV O (yf 1 O NP O dh O) fun a hF=>?_
   refine ax O (fun K hK=>aX hF O O hA25 O O 0 O (by simp) rfl dh (fun w26 hA27=>hK _ _ ?_))
   clear hK K
   replace hA27:Hp w0 ([row bb BT [.slice none 0 0,.slice none 0 0,.int .i64 held,.bool false]]::XL::XS.flatten::R) w26:=hA27
   refine aH<|hK26 _ _ ?_
   clear hK26 K26
   refine wS hF fun K27 hK27=>vX O<|vX O<|vV O (yf 2 O NP O fB O) fun a hF=>?_
   refine ax O (fun K hK=>aX hF O O hA27 O O 0 O (by simp) rfl fB (fun w28 hA29=>hK _ _ ?_))
   clear hK K
   replace hA29:Hp w0 ([row bb BT [.slice none 0 0,.slice none 0 0,.int .i64 0,.bool false]]::XL::XS.flatten::R) w28:=hA29
   refine aH<|hK27 _ _ ?_
   clear hK27 K27
   refine wS hF fun K28 hK28=>vX O<|vE hK28 fun a hF=>?_
   clear hK28 K28
   apply wp_ret
   refine aO hF Tryz.results41 O ?_
   have hA30:Hp w0 ([row bb BT [.slice none 0 0,.slice none 0 0,.int .i64 0,.bool false]]::R) w28:=hpS 3 [0] [1,2] hA29 rfl
   exact ⟨rfl,hA30⟩
theorem qh {lv wv:Value} {BT:TypeId} {held:Int} (w0 w:World) (R:List Seg) (bb fm:Nat) (ks:List (KeptX (List UInt8))) (Y:Seg) (mv:Nat→Nat→List UInt8) (hml:∀ i j,(cS (mv i j)).length=1) (hcf:aK Tryz.prog fm) (hmark:∀ (i j:Nat) (S:List Seg) (x:World),i<4000→j<9223372036854775807→Hp w0 S x→Calls Tryz.prog fm #[.int .i64 (i:Int),.int .i64 (j:Int)] x fun e x'=>e= .returned (aj (mv i j))∧Hp w0 S x') (hb:BookV cS 23 9 1 ks lv wv Y) (hA:Hp w0 ([row bb BT [lv,wv,.int .i64 held,.bool false]]::Y::R) w):Calls Tryz.prog 43 #[.pointer (some ⟨bb,0,none⟩),.func (.func fm) #[] #[]] w fun e w'=>e= .returned (.bool true)∧Hp w0 ([row bb BT [.slice none 0 0,.slice none 0 0,.int .i64 0,.bool false]]::R) w':=by
 refine aP Tryz.func43 O Tryz.ntmps43 ai (fun a hF=>?_)
 refine wS hF fun K1 hK1=>vX O<|vE hK1 fun a hF=>?_
 clear hK1 K1
 apply wp_seq_k; intro K2 hK2
 refine wS hF fun K3 hK3=>vX O fun a hF=>?_
 refine ax O (fun K hK=>ay hF O ae Gi rfl rfl ?_)
 with_reducible refine (qg w0 _ R bb ks Y hb hA).mono ?_
 rintro e' w1 ⟨rfl,hA2⟩
 refine ⟨_,rfl,fun a hF=>hK _ _ ?_⟩
 clear hK K
 replace hA2:Hp w0 ([row bb BT [lv,wv,.int .i64 held,.bool false]]::Y::R) w1:=hA2
 refine vR hF<|vV O (dm O O O)<|vE hK3 fun a hF=>?_
 clear hK3 K3
 refine dn hF O ?_
 apply wp_skip
 refine hK2 _ _ ?_; clear  hK2 K2
 apply wp_seq_k; intro K4 hK4
 refine wS hF fun K5 hK5=>vX O<|vE hK5 fun a hF=>?_
 clear hK5 K5
 apply wp_block
 obtain ⟨hn4,XL,XW,hL,hW,hK,rfl⟩:=hb
 obtain ⟨AL,cL,rfl,hcL⟩:=hL.slice
 obtain ⟨AW,cW,rfl,hcW⟩:=hW.slice
 obtain ⟨_,_,f1,_,hc1⟩:=hL.rc (w0:=w0) (R:=[XL]) (Nu ..)
 injection f1 with f1 _ _
 subst f1
 have hA3:=Hp.bookX hA2
 refine bH (G:=Nat) (fun i a x=>∃ (XS:List Seg),i≤ks.length∧ApS cS 9 1 mv ks i XS∧Fr 101 [(5,.int .i64 (i:Int)),(0,.pointer (some ⟨bb,0,none⟩)),(1,.func (.func fm) #[] #[])] a∧Hp w0 ([row bb BT [.slice AL ks.length cL,.slice AW ks.length cW,.int .i64 held,.bool false]]::XL::XS.flatten::R) x) (fun i=>ks.length-i) 0 (⟨ks.map (·.X),Nl _,ApS.new hK,hF.keep [5,0,1] rfl,hA3⟩) ?_
 clear hF
 rintro i a w5 ⟨XS,hi,hap,hF,hA4⟩
 apply wp_seq_k; intro K6 hK6
 refine wS hF fun K7 hK7=>vX O<|vX O<|vX O<|vV O (yf 0 O NR O df O)<|vV O (aU O hA4.q O 0 O O eH)<|vV O (aT O NS O O)<|vV O (aF O O O O O)<|vE hK7 fun a hF=>?_
 clear hK7 K7
 by_cases hlt:i<ks.length
 ·refine aG hF O (dF ag) ?_
  obtain ⟨k0,X0,hk0,hX0,_,hbuf⟩:=hap.at hlt
  replace hbuf:=hbuf (Nv _)
  obtain ⟨A,c,ev,hcap1,hcap2⟩:=hbuf.cap
  rw [ev] at hbuf
  have hA6:=Hp.outX hA4 hX0
  obtain ⟨gL,oL,eAL,hcc1⟩:=hc1.ne (i:=i) (by rw [List.length_map]; exact hlt)
  subst eAL
  apply wp_skip
  refine hK6 _ _ ?_; clear  hK6 K6
  apply wp_seq_k; intro K8 hK8
  apply wp_block
  apply wp_seq_k; intro K9 hK9
  refine aQ 16 [16] [0,1,2,3,4,5,6,7,8,9,10,11,12,13,14,15,16] _ af af (Hq.drew hA6.q) ?_
  have hA7:=Hl.drew hA6
  refine pR hF<|pX O O<|pX O O<|pW O O (fun _=>yf 0 O NR O df O)<|pV O O (fun x hx=>aU O hx O 0 O O eH)<|pX O O<|pW O O (fun _=>aY O NS jT O O i rfl hlt (ad2 _ _ _))<|pV O O (fun x hx=>bV (u:= .slice A k0.l.length c) rfl (Hq.sub hx (fun x hx=>by rw [List.mem_singleton] at hx; subst hx; simp)) O hcc1 i (by rw [List.length_map]; exact hlt) rfl (by rw [List.getElem?_map,hk0]; exact congrArg some ev) jV) fun a hF=>?_
  refine pR hF<|pX O O<|pX O O<|pW O O (fun _=>yf 0 O NR O df O)<|pV O O (fun x hx=>aU O hx O 0 O O eH)<|pX O O<|pW O O (fun _=>aY O NS jT O O i rfl hlt (ad2 _ _ _))<|pV O O (fun x hx=>bV (u:= .slice A k0.l.length c) rfl (Hq.sub hx (fun x hx=>by rw [List.mem_singleton] at hx; subst hx; simp)) O hcc1 i (by rw [List.length_map]; exact hlt) rfl (by rw [List.getElem?_map,hk0]; exact congrArg some ev) jV) fun a hF=>?_
  refine pR hF<|pW O O (fun _=>ig O Nk O)<|pW O O (fun _=>dW O Nk uC O (.none 0) (.some rfl rfl) (Nl _) (Nv _) jc) fun a hF=>?_
  refine dG hF O O O O ae _ (fO O O) (fun h=>absurd h ae) (fun a hF=>?_)
  refine bI ?_
  refine hK9 _ _ ?_; clear  hK9 K9
  refine wS hF fun K10 hK10=>vX O<|vE hK10 fun a hF=>?_
  clear hK10 K10
  apply wp_block
  refine bH (G:=Nat) (fun j a x=>∃ (X1:Seg),j≤c∧Buf 9 1 X1 (.slice A j c) j (cel cS (mkL (mv i) j))∧Fr 101 [(7,.int .i64 (j:Int)),(0,.pointer (some ⟨bb,0,none⟩)),(1,.func (.func fm) #[] #[]),(5,.int .i64 (i:Int)),(6,.slice A c c)] a∧Hp w0 ([row bb BT [.slice (some ⟨gL,oL,none⟩) ks.length cL,.slice AW ks.length cW,.int .i64 held,.bool false]]::XL::X1::(XS.eraseIdx i).flatten::R) x) (fun j=>c-j) 0 (⟨X0,Nl _,hbuf.forget,hF.keep [7,0,1,5,6] rfl,hA7⟩) ?_
  clear hF
  rintro j a w9 ⟨X1,hj,hbj,hF,hA8⟩
  apply wp_seq_k; intro K11 hK11
  refine wS hF fun K12 hK12=>vX O<|vX O<|vV O (aT O Nk O O)<|vV O (aF O O O O O)<|vE hK12 fun a hF=>?_
  clear hK12 K12
  by_cases hltj:j<c
  ·refine aG hF O (dF ag) ?_
   obtain ⟨g1,B1,Z1,rfl,rfl,hWl,hZl,hnx⟩:=hbj.opens hltj
   apply wp_skip
   refine hK11 _ _ ?_; clear  hK11 K11
   apply wp_seq_k; intro K13 hK13
   apply wp_block
   refine wp_region_lit ?_
   refine vR hF<|vX O<|vX O<|vX O<|vX O<|vX O fun a hF=>?_
   refine ax O (fun K hK=>iP hF O ae hcf rfl rfl rfl ?_)
   with_reducible refine (hmark i j ([row bb BT [.slice (some ⟨gL,oL,none⟩) ks.length cL,.slice AW ks.length cW,.int .i64 held,.bool false]]::XL::[row g1 9 (B1++cel cS (mkL (mv i) j)++Z1)]::(XS.eraseIdx i).flatten::R) _ ag ag hA8).mono ?_
   rintro e' w10 ⟨rfl,hA11⟩
   refine ⟨_,rfl,fun a hF=>hK _ _ ?_⟩
   clear hK K
   refine vR hF<|vV O (aY O Nk uC O O j rfl hltj (ad2 _ _ _)) fun a hF=>?_
   refine ax O (fun K hK=>aX hF O O hA11 O O 2 O (by rw [List.length_append,List.length_append,hWl]; omega) rfl uC (fun w12 hA13=>hK _ _ ?_))
   clear hK K
   replace hA13:Hp w0 ([row bb BT [.slice (some ⟨gL,oL,none⟩) ks.length cL,.slice AW ks.length cW,.int .i64 held,.bool false]]::XL::[row g1 9 ((B1++cel cS (mkL (mv i) j)++Z1).set (B1.length+j) (aj (mv i j)))]::(XS.eraseIdx i).flatten::R) w12:=hA13
   have hA14:Hp w0 ([row bb BT [.slice (some ⟨gL,oL,none⟩) ks.length cL,.slice AW ks.length cW,.int .i64 held,.bool false]]::XL::[row g1 9 (B1++cel cS (mkL (mv i) j)++(cS (mv i j)++Z1.drop 1))]::(XS.eraseIdx i).flatten::R) w12:=by
    have hsm:=set_mid (B:=B1) (Z:=Z1) (u:=aj (mv i j)) (hWl.trans (Nat.mul_one _)) hZl
    rw [hsm] at hA13; exact hA13
   refine aH<|hK13 _ _ ?_
   clear hK13 K13
   refine wp_region_lit ?_
   refine vR hF<|vX O<|vV O (bT O O O (Np _ ag))<|vX O fun a hF=>?_
   refine aH ?_
   exact ⟨j+1,ag,_,ag,(by rw [zI]; exact hnx _ (hml i j)),hF.keep [7,0,1,5,6] rfl,hA14⟩
  ·refine au hF O (dE ag) ?_
   have hjc:j=c:=by omega
   rw [hjc] at hbj
   apply wp_exit
   refine hK8 _ _ ?_; clear hK11 K11 hK8 K8
   refine wp_region_lit ?_
   refine vR hF<|vX O<|vV O (bT O O O (Np _ ag))<|vX O fun a hF=>?_
   refine aH ?_
   have hA15:=Hp.inX hA8 (by rw [hap.1]; exact hlt)
   exact ⟨i+1,ag,_,ag,hap.step hk0 ⟨A,c,ev,hbj⟩,hF.keep [5,0,1] rfl,hA15⟩
 ·refine au hF O (dE ag) ?_
  have hie:i=ks.length:=by omega
  rw [hie] at hap
  apply wp_exit
  refine hK4 _ _ ?_; clear hK6 K6 hK4 K4
  apply wp_seq_k; intro K14 hK14
  refine wS hF fun K15 hK15=>vX O<|vE hK15 fun a hF=>?_
  clear hK15 K15
  apply wp_block
  refine bH (G:=Nat) (fun i a x=>i≤ks.length∧Fr 101 [(8,.int .i64 (i:Int)),(0,.pointer (some ⟨bb,0,none⟩)),(1,.func (.func fm) #[] #[])] a∧Hp w0 ([row bb BT [.slice AL ks.length cL,.slice AW ks.length cW,.int .i64 held,.bool false]]::XL::XS.flatten::R) x) (fun i=>ks.length-i) 0 (⟨Nl _,hF.keep [8,0,1] rfl,hA4⟩) ?_
  clear hF
  rintro i a w17 ⟨hi2,hF,hA16⟩
  apply wp_seq_k; intro K16 hK16
  refine wS hF fun K17 hK17=>vX O<|vX O<|vX O<|vV O (yf 0 O NR O df O)<|vV O (aU O hA16.q O 0 O O eH)<|vV O (aT O NS O O)<|vV O (aF O O O O O)<|vE hK17 fun a hF=>?_
  clear hK17 K17
  by_cases hlt:i<ks.length
  ·refine aG hF O (dF ag) ?_
   clear hie
   obtain ⟨k0,X0,hk0,hX0,hm,_⟩:=hap.at hlt
   obtain ⟨A,c,ev,hbm⟩:=hm hlt
   obtain ⟨A',c',e',_,hcap2,hrc⟩:=hbm.rcIn (w0:=w0) (R:=[XS.flatten]) (fun r hr=>List.mem_flatten.2 ⟨X0,List.mem_of_getElem? hX0,hr⟩) (Nu ..)
   injection e' with e' _ e''
   subst e' e''
   obtain ⟨gL,oL,eAL,hcc1⟩:=hc1.ne (i:=i) (by rw [List.length_map]; exact hlt)
   subst eAL
   apply wp_skip
   refine hK16 _ _ ?_; clear  hK16 K16
   apply wp_seq_k; intro K18 hK18
   apply wp_block
   apply wp_seq_k; intro K19 hK19
   refine aQ 16 [16] [0,1,2,3,4,5,6,7,8,9,10,11,12,13,14,15,16] _ af af (Hq.drew hA16.q) ?_
   have hA18:=Hl.drew hA16
   refine pR hF<|pX O O<|pX O O<|pW O O (fun _=>yf 0 O NR O df O)<|pV O O (fun x hx=>aU O hx O 0 O O eH)<|pX O O<|pW O O (fun _=>aY O NS jT O O i rfl hlt (ad2 _ _ _))<|pV O O (fun x hx=>bV (u:= .slice A k0.l.length c) rfl (Hq.sub hx (fun x hx=>by rw [List.mem_singleton] at hx; subst hx; simp)) O hcc1 i (by rw [List.length_map]; exact hlt) rfl (by rw [List.getElem?_map,hk0]; exact congrArg some ev) jV) fun a hF=>?_
   refine pR hF<|pX O O<|pX O O<|pW O O (fun _=>yf 0 O NR O df O)<|pV O O (fun x hx=>aU O hx O 0 O O eH)<|pX O O<|pW O O (fun _=>aY O NS jT O O i rfl hlt (ad2 _ _ _))<|pV O O (fun x hx=>bV (u:= .slice A k0.l.length c) rfl (Hq.sub hx (fun x hx=>by rw [List.mem_singleton] at hx; subst hx; simp)) O hcc1 i (by rw [List.length_map]; exact hlt) rfl (by rw [List.getElem?_map,hk0]; exact congrArg some ev) jV) fun a hF=>?_
   refine pR hF<|pW O O (fun _=>ig O Nk O)<|pW O O (fun _=>dW O Nk uC O (.none 0) (.some rfl rfl) (Nl _) (Nv _) jc) fun a hF=>?_
   refine dG hF O O O O ae _ (fO O O) (fun h=>absurd h ae) (fun a hF=>?_)
   refine bI ?_
   refine hK19 _ _ ?_; clear  hK19 K19
   refine wS hF fun K20 hK20=>vX O<|vE hK20 fun a hF=>?_
   clear hK20 K20
   apply wp_block
   refine bH (G:=Nat) (fun j a x=>j≤c∧Fr 101 [(10,.int .i64 (j:Int)),(0,.pointer (some ⟨bb,0,none⟩)),(1,.func (.func fm) #[] #[]),(8,.int .i64 (i:Int)),(9,.slice A c c)] a∧Hp w0 ([row bb BT [.slice (some ⟨gL,oL,none⟩) ks.length cL,.slice AW ks.length cW,.int .i64 held,.bool false]]::XL::XS.flatten::R) x) (fun j=>c-j) 0 (⟨Nl _,hF.keep [10,0,1,8,9] rfl,hA18⟩) ?_
   clear hF
   rintro j a w20 ⟨hj,hF,hA19⟩
   apply wp_seq_k; intro K21 hK21
   refine wS hF fun K22 hK22=>vX O<|vX O<|vV O (aT O Nk O O)<|vV O (aF O O O O O)<|vE hK22 fun a hF=>?_
   clear hK22 K22
   by_cases hltj:j<c
   ·refine aG hF O (dF ag) ?_
    obtain ⟨hd1,hd2⟩:=Bi (u:=aj (mv i j)) (Ah (hml i) c) (zh (mv i) hltj) rfl
    obtain ⟨b,o,rfl,hc⟩:=hrc.ne (i:=j) hd2
    apply wp_skip
    refine hK21 _ _ ?_; clear  hK21 K21
    apply wp_seq_k; intro K23 hK23
    apply wp_block
    apply wp_seq_k; intro K24 hK24
    refine aQ 8 [7,8] [0,1,2,3,4,5,6,7,8] _ af af (Hq.drew hA19.q) ?_
    have hA21:=Hl.drew hA19
    refine pR hF<|pX O O<|pX O O<|pW O O (fun _=>aY O Nk uC O O j rfl hltj (ad2 _ _ _))<|pV O O (fun x hx=>bV (u:=aj (mv i j)) O (Hq.sub hx (fun x hx=>by rw [List.mem_singleton] at hx; subst hx; simp)) O hc j hd2 rfl hd1 uV) fun a hF=>?_
    refine pR hF<|pX O O<|pX O O<|pX O O fun a hF=>?_
    refine fG O O O (fun K hK=>iP hF O ae hcf rfl rfl rfl ?_)
    with_reducible refine (hmark i j ([row bb BT [.slice (some ⟨gL,oL,none⟩) ks.length cL,.slice AW ks.length cW,.int .i64 held,.bool false]]::XL::XS.flatten::R) _ ag ag hA21).mono ?_
    rintro e' w22 ⟨rfl,hA23⟩
    refine ⟨_,rfl,fun a hF=>hK _ _ (fun _=>?_) ?_⟩
    ·exact hA23.q
    clear hK K
    replace hA23:Hp w0 ([row bb BT [.slice (some ⟨gL,oL,none⟩) ks.length cL,.slice AW ks.length cW,.int .i64 held,.bool false]]::XL::XS.flatten::R) w22:=hA23
    refine dG hF O O O O ae _ (fA (c:=false) rfl rfl rfl rfl (qG _)) (fun h=>absurd h ae) (fun a hF=>?_)
    refine bI ?_
    refine hK24 _ _ ?_; clear  hK24 K24
    refine dn hF O ?_
    apply wp_skip
    refine hK23 _ _ ?_; clear  hK23 K23
    refine wp_region_lit ?_
    refine vR hF<|vX O<|vV O (bT O O O (Np _ ag))<|vX O fun a hF=>?_
    refine aH ?_
    exact ⟨j+1,ag,ag,hF.keep [10,0,1,8,9] rfl,hA23⟩
   ·refine au hF O (dE ag) ?_
    apply wp_exit
    refine hK18 _ _ ?_; clear hK21 K21 hK18 K18
    refine wp_region_lit ?_
    refine vR hF<|vX O<|vV O (bT O O O (Np _ ag))<|vX O fun a hF=>?_
    refine aH ?_
    exact ⟨i+1,ag,ag,hF.keep [8,0,1] rfl,hA19⟩
  ·refine au hF O (dE ag) ?_
   apply wp_exit
   refine hK14 _ _ ?_; clear hK16 K16 hK14 K14
   refine wS hF fun K25 hK25=>vX O<|vX O<|vV O (yf 0 O NR O df O) fun a hF=>?_
   refine ax O (fun K hK=>aX hF O O hA16 O O 0 O (by simp) rfl df (fun w24 hA25=>hK _ _ ?_))
   clear hK K
   replace hA25:Hp w0 ([row bb BT [.slice none 0 0,.slice AW ks.length cW,.int .i64 held,.bool false]]::XL::XS.flatten::R) w24:=hA25
   refine aH<|hK25 _ _ ?_
   clear hK25 K25
   refine wS hF fun K26 hK26=>vX O<|vX O<|vV O (yf 1 O NR O df O) fun a hF=>?_
   refine ax O (fun K hK=>aX hF O O hA25 O O 0 O (by simp) rfl df (fun w26 hA27=>hK _ _ ?_))
   clear hK K
   replace hA27:Hp w0 ([row bb BT [.slice none 0 0,.slice none 0 0,.int .i64 held,.bool false]]::XL::XS.flatten::R) w26:=hA27
   refine aH<|hK26 _ _ ?_
   clear hK26 K26
   refine wS hF fun K27 hK27=>vX O<|vX O<|vV O (yf 2 O NR O fB O) fun a hF=>?_
   refine ax O (fun K hK=>aX hF O O hA27 O O 0 O (by simp) rfl fB (fun w28 hA29=>hK _ _ ?_))
   clear hK K
   replace hA29:Hp w0 ([row bb BT [.slice none 0 0,.slice none 0 0,.int .i64 0,.bool false]]::XL::XS.flatten::R) w28:=hA29
   refine aH<|hK27 _ _ ?_
   clear hK27 K27
   refine wS hF fun K28 hK28=>vX O<|vE hK28 fun a hF=>?_
   clear hK28 K28
   apply wp_ret
   refine aO hF Tryz.results43 O ?_
   have hA30:Hp w0 ([row bb BT [.slice none 0 0,.slice none 0 0,.int .i64 0,.bool false]]::R) w28:=hpS 3 [0] [1,2] hA29 rfl
   exact ⟨rfl,hA30⟩
end Go.Proofs.YtepbmdlgdaedpaaGreatDoor
