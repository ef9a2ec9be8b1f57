/- Lists of values that are kept: apart. -/
import Derived.Test.YtepbmdlgdaedpaaGreatDoorKr2
/- Lists of values that are kept: apart. -/
namespace Go.Proofs.YtepbmdlgdaedpaaGreatDoor
open Go.RowKit Go.Dk
theorem yx:aK Tryz.prog 40:=⟨_,Tryz.func40,af,af⟩
theorem Dc:aK Tryz.prog 103:=⟨_,Tryz.func103,af,af⟩
theorem Jo {mv:Nat→Nat→VA} {ks:List KeptR} (hK:∀ k∈ks,ROK k):ApS VA.cells 25 4 mv (ks.map (·.x)) 0 ((ks.map (·.x)).map (·.X)):=by
 refine ⟨by simp,fun m k X h1 h2=>⟨fun h=>absurd h (Nat.not_lt_zero _),fun _=>?_⟩⟩
 rw [List.getElem?_map,h1] at h2
 injection h2 with h2
 subst h2
 rw [List.getElem?_map] at h1
 cases hk:ks[m]? with
 | none=>rw [hk] at h1; cases h1
 | some k0 =>
  rw [hk] at h1
  injection h1 with h1
  subst h1
  exact (hK k0 (List.mem_of_getElem? hk)).2.1
set_option maxRecDepth 100000 in
set_option maxHeartbeats 8000000 in
theorem EF {lv wv:Value} {held:Int} (w0 w:World) (R:List Seg) (bb:Nat) (ks:List KeptR) (Y:Seg) (hb:RowsV ks lv wv Y) (hk4:ks.length<4000) (hrd:∀ k∈ks,RRd w0 R k) (hA:Hp w0 ([row bb 74 [lv,wv,.int .i64 held,.bool false]]::Y::R) w):Calls Tryz.prog 39 #[.pointer (some ⟨bb,0,none⟩),.func (.func 25) #[] #[],.func (.func 40) #[] #[]] w fun e w'=>e= .returned (.bool true)∧Hp w0 ([row bb 74 [.slice none 0 0,.slice none 0 0,.int .i64 0,.bool false]]::R) w':=by
 refine aP Tryz.func39 O Tryz.ntmps39 ai (fun a hF=>?_)
 refine wS hF fun K1 hK1=>vX O<|vE hK1 fun a hF=>?_
 clear hK1 K1
 apply wp_seq_k; intro K2 hK2
 refine wS hF fun K3 hK3=>vX O<|vX O fun a hF=>?_
 refine ax O (fun K hK=>ay hF O ae Dc rfl rfl ?_)
 with_reducible refine (EE w0 _ R bb ks Y hb hrd hA).mono ?_
 rintro e' w1 ⟨rfl,hA2⟩
 refine ⟨_,rfl,fun a hF=>hK _ _ ?_⟩
 clear hK K
 replace hA2:Hp w0 ([row bb 74 [lv,wv,.int .i64 held,.bool false]]::Y::R) w1:=hA2
 refine vR hF<|vV O (dm O O O)<|vE hK3 fun a hF=>?_
 clear hK3 K3
 refine dn hF O ?_
 apply wp_skip
 refine hK2 _ _ ?_; clear  hK2 K2
 apply wp_seq_k; intro K4 hK4
 refine wS hF fun K5 hK5=>vX O<|vE hK5 fun a hF=>?_
 clear hK5 K5
 apply wp_block
 obtain ⟨hn4,XL,XW,hL,hW,hK,rfl⟩:=hb
 obtain ⟨AL,cL,rfl,hcL⟩:=hL.slice
 obtain ⟨AW,cW,rfl,hcW⟩:=hW.slice
 obtain ⟨_,_,f1,_,hc1⟩:=hL.rc (w0:=w0) (R:=[XL]) (Nu ..)
 injection f1 with f1 _ _
 subst f1
 have hA3:=Hp.bookX hA2
 refine bH (G:=Nat) (fun i a x=>∃ (XS:List Seg),i≤ks.length∧ApS VA.cells 25 4 (fun i _=>jI i) (ks.map (·.x)) i XS∧Fr 104 [(7,.int .i64 (i:Int)),(0,.pointer (some ⟨bb,0,none⟩)),(1,.func (.func 25) #[] #[]),(2,.func (.func 40) #[] #[])] a∧Hp w0 ([row bb 74 [.slice AL ks.length cL,.slice AW ks.length cW,.int .i64 held,.bool false]]::XL::XS.flatten::R) x) (fun i=>ks.length-i) 0 (⟨(ks.map (·.x)).map (·.X),Nl _,Jo hK,hF.keep [7,0,1,2] rfl,hA3⟩) ?_
 clear hF
 rintro i a w5 ⟨XS,hi,hap,hF,hA4⟩
 apply wp_seq_k; intro K6 hK6
 refine wS hF fun K7 hK7=>vX O<|vX O<|vX O<|vV O (yf 0 O NT O dI O)<|vV O (aU O hA4.q O 0 O O gp)<|vV O (aT O NU O O)<|vV O (aF O O O O O)<|vE hK7 fun a hF=>?_
 clear hK7 K7
 by_cases hlt:i<ks.length
 ·refine aG hF O (dF ag) ?_
  obtain ⟨kx,X0,hkx,hX0,_,hbuf⟩:=hap.at (m:=i) (by rw [List.length_map]; exact hlt)
  obtain ⟨k0,hk0⟩:∃ k0,ks[i]? = some k0:=⟨_,List.getElem?_eq_getElem hlt⟩
  obtain rfl:k0.x=kx:=by rw [List.getElem?_map,hk0] at hkx; injection hkx
  replace hbuf:=hbuf (Nv _)
  obtain ⟨A,c,ev,hcap1,hcap2⟩:=hbuf.cap
  rw [ev] at hbuf
  have hA6:=Hp.outX hA4 hX0
  obtain ⟨gL,oL,eAL,hcc1⟩:=hc1.ne (i:=i) (by rw [List.length_map]; exact hlt)
  subst eAL
  apply wp_skip
  refine hK6 _ _ ?_; clear  hK6 K6
  apply wp_seq_k; intro K8 hK8
  apply wp_block
  apply wp_seq_k; intro K9 hK9
  refine aQ 16 [16] [0,1,2,3,4,5,6,7,8,9,10,11,12,13,14,15,16] _ af af (Hq.drew hA6.q) ?_
  have hA7:=Hl.drew hA6
  refine pR hF<|pX O O<|pX O O<|pW O O (fun _=>yf 0 O NT O dI O)<|pV O O (fun x hx=>aU O hx O 0 O O gp)<|pX O O<|pW O O (fun _=>aY O NU uF O O i rfl hlt (ad2 _ _ _))<|pV O O (fun x hx=>bV (u:= .slice A k0.x.l.length c) rfl (Hq.sub hx (fun x hx=>by rw [List.mem_singleton] at hx; subst hx; simp)) O hcc1 i (by rw [List.length_map]; exact hlt) rfl (by rw [List.getElem?_map,hk0]; exact congrArg some ev) uY) fun a hF=>?_
  refine pR hF<|pX O O<|pX O O<|pW O O (fun _=>yf 0 O NT O dI O)<|pV O O (fun x hx=>aU O hx O 0 O O gp)<|pX O O<|pW O O (fun _=>aY O NU uF O O i rfl hlt (ad2 _ _ _))<|pV O O (fun x hx=>bV (u:= .slice A k0.x.l.length c) rfl (Hq.sub hx (fun x hx=>by rw [List.mem_singleton] at hx; subst hx; simp)) O hcc1 i (by rw [List.length_map]; exact hlt) rfl (by rw [List.getElem?_map,hk0]; exact congrArg some ev) uY) fun a hF=>?_
  refine pR hF<|pW O O (fun _=>ig O NG O)<|pW O O (fun _=>dW O NG nD O (.none 0) (.some rfl rfl) (Nl _) (Nv _) jc) fun a hF=>?_
  refine dG hF O O O O ae _ (fO O O) (fun h=>absurd h ae) (fun a hF=>?_)
  refine bI ?_
  refine hK9 _ _ ?_; clear  hK9 K9
  refine wS hF fun K10 hK10=>vX O<|vE hK10 fun a hF=>?_
  clear hK10 K10
  apply wp_block
  refine bH (G:=Nat) (fun j a x=>∃ (X1:Seg),j≤c∧Buf 25 4 X1 (.slice A j c) j (cel VA.cells (mkL ((fun i _=>jI i) i) j))∧Fr 104 [(9,.int .i64 (j:Int)),(0,.pointer (some ⟨bb,0,none⟩)),(1,.func (.func 25) #[] #[]),(2,.func (.func 40) #[] #[]),(7,.int .i64 (i:Int)),(8,.slice A c c)] a∧Hp w0 ([row bb 74 [.slice (some ⟨gL,oL,none⟩) ks.length cL,.slice AW ks.length cW,.int .i64 held,.bool false]]::XL::X1::(XS.eraseIdx i).flatten::R) x) (fun j=>c-j) 0 (⟨X0,Nl _,hbuf.forget,hF.keep [9,0,1,2,7,8] rfl,hA7⟩) ?_
  clear hF
  rintro j a w9 ⟨X1,hj,hbj,hF,hA8⟩
  apply wp_seq_k; intro K11 hK11
  refine wS hF fun K12 hK12=>vX O<|vX O<|vV O (aT O NG O O)<|vV O (aF O O O O O)<|vE hK12 fun a hF=>?_
  clear hK12 K12
  by_cases hltj:j<c
  ·refine aG hF O (dF ag) ?_
   obtain ⟨g1,B1,Z1,rfl,rfl,hWl,hZl,hnx⟩:=hbj.opens hltj
   apply wp_skip
   refine hK11 _ _ ?_; clear  hK11 K11
   apply wp_seq_k; intro K13 hK13
   apply wp_block
   refine wp_region_lit ?_
   refine vR hF<|vX O<|vX O<|vX O<|vX O fun a hF=>?_
   refine ax O (fun K hK=>iP hF O ae yx rfl rfl rfl ?_)
   with_reducible refine (Ai (R:=([row bb 74 [.slice (some ⟨gL,oL,none⟩) ks.length cL,.slice AW ks.length cW,.int .i64 held,.bool false]]::XL::[row g1 25 (B1++cel VA.cells (mkL ((fun i _=>jI i) i) j)++Z1)]::(XS.eraseIdx i).flatten::R)) i _ ag hA8).mono ?_
   rintro e' w10 ⟨rfl,hA11⟩
   refine ⟨_,rfl,fun a hF=>hK _ _ ?_⟩
   clear hK K
   refine vR hF<|vV O (aY O NG nD O O j rfl hltj rfl) fun a hF=>?_
   refine ax O (fun K hK=>lN (new:=(jI i).cells) hF O O hA11 O O 2 O (by rw [List.length_append,List.length_append,hWl]; show B1.length+j*4+4≤_; omega) (qE _) nD (fun w12 hA13=>hK _ _ ?_))
   clear hK K
   replace hA13:Hp w0 ([row bb 74 [.slice (some ⟨gL,oL,none⟩) ks.length cL,.slice AW ks.length cW,.int .i64 held,.bool false]]::XL::[row g1 25 (splice (B1++cel VA.cells (mkL ((fun i _=>jI i) i) j)++Z1) (B1.length+j*4) ((jI i).cells))]::(XS.eraseIdx i).flatten::R) w12:=hA13
   have hA14:Hp w0 ([row bb 74 [.slice (some ⟨gL,oL,none⟩) ks.length cL,.slice AW ks.length cW,.int .i64 held,.bool false]]::XL::[row g1 25 (B1++cel VA.cells (mkL ((fun i _=>jI i) i) j)++((jI i).cells++Z1.drop 4))]::(XS.eraseIdx i).flatten::R) w12:=by
    have hsm:=yQ (B:=B1) (Z:=Z1) (u:=(jI i).cells) hWl
    have h9:=hA13
    rw [hsm] at h9; exact h9
   refine aH<|hK13 _ _ ?_
   clear hK13 K13
   refine wp_region_lit ?_
   refine vR hF<|vX O<|vV O (bT O O O (Np _ ag))<|vX O fun a hF=>?_
   refine aH ?_
   exact ⟨j+1,ag,_,ag,(by rw [zI]; exact hnx _ O),hF.keep [9,0,1,2,7,8] rfl,hA14⟩
  ·refine au hF O (dE ag) ?_
   have hjc:j=c:=by omega
   rw [hjc] at hbj
   apply wp_exit
   refine hK8 _ _ ?_; clear hK11 K11 hK8 K8
   refine wp_region_lit ?_
   refine vR hF<|vX O<|vV O (bT O O O (Np _ ag))<|vX O fun a hF=>?_
   refine aH ?_
   have hA15:=Hp.inX hA8 (by rw [hap.1,List.length_map]; exact hlt)
   exact ⟨i+1,ag,_,ag,hap.step hkx ⟨A,c,ev,hbj⟩,hF.keep [7,0,1,2] rfl,hA15⟩
 ·refine au hF O (dE ag) ?_
  have hie:i=ks.length:=by omega
  rw [hie] at hap
  apply wp_exit
  refine hK4 _ _ ?_; clear hK6 K6 hK4 K4
  apply wp_seq_k; intro K14 hK14
  refine wS hF fun K15 hK15=>vX O<|vE hK15 fun a hF=>?_
  clear hK15 K15
  apply wp_block
  refine bH (G:=Nat) (fun i a x=>i≤ks.length∧Fr 104 [(10,.int .i64 (i:Int)),(0,.pointer (some ⟨bb,0,none⟩)),(1,.func (.func 25) #[] #[]),(2,.func (.func 40) #[] #[])] a∧Hp w0 ([row bb 74 [.slice AL ks.length cL,.slice AW ks.length cW,.int .i64 held,.bool false]]::XL::XS.flatten::R) x) (fun i=>ks.length-i) 0 (⟨Nl _,hF.keep [10,0,1,2] rfl,hA4⟩) ?_
  clear hF
  rintro i a w17 ⟨hi2,hF,hA16⟩
  apply wp_seq_k; intro K16 hK16
  refine wS hF fun K17 hK17=>vX O<|vX O<|vX O<|vV O (yf 0 O NT O dI O)<|vV O (aU O hA16.q O 0 O O gp)<|vV O (aT O NU O O)<|vV O (aF O O O O O)<|vE hK17 fun a hF=>?_
  clear hK17 K17
  by_cases hlt:i<ks.length
  ·refine aG hF O (dF ag) ?_
   clear hie
   obtain ⟨kx,X0,hkx,hX0,hm,_⟩:=hap.at (m:=i) (by rw [List.length_map]; exact hlt)
   obtain ⟨k0,hk0⟩:∃ k0,ks[i]? = some k0:=⟨_,List.getElem?_eq_getElem hlt⟩
   obtain rfl:k0.x=kx:=by rw [List.getElem?_map,hk0] at hkx; injection hkx
   obtain ⟨A,c,ev,hbm⟩:=hm hlt
   obtain ⟨A',c',e',_,hcap2,hrc⟩:=hbm.rcIn (w0:=w0) (R:=[XS.flatten]) (fun r hr=>List.mem_flatten.2 ⟨X0,List.mem_of_getElem? hX0,hr⟩) (Nu ..)
   injection e' with e' _ e''
   subst e' e''
   obtain ⟨gL,oL,eAL,hcc1⟩:=hc1.ne (i:=i) (by rw [List.length_map]; exact hlt)
   subst eAL
   apply wp_skip
   refine hK16 _ _ ?_; clear  hK16 K16
   apply wp_seq_k; intro K18 hK18
   apply wp_block
   apply wp_seq_k; intro K19 hK19
   refine aQ 16 [16] [0,1,2,3,4,5,6,7,8,9,10,11,12,13,14,15,16] _ af af (Hq.drew hA16.q) ?_
   have hA18:=Hl.drew hA16
   refine pR hF<|pX O O<|pX O O<|pW O O (fun _=>yf 0 O NT O dI O)<|pV O O (fun x hx=>aU O hx O 0 O O gp)<|pX O O<|pW O O (fun _=>aY O NU uF O O i rfl hlt (ad2 _ _ _))<|pV O O (fun x hx=>bV (u:= .slice A k0.x.l.length c) rfl (Hq.sub hx (fun x hx=>by rw [List.mem_singleton] at hx; subst hx; simp)) O hcc1 i (by rw [List.length_map]; exact hlt) rfl (by rw [List.getElem?_map,hk0]; exact congrArg some ev) uY) fun a hF=>?_
   refine pR hF<|pX O O<|pX O O<|pW O O (fun _=>yf 0 O NT O dI O)<|pV O O (fun x hx=>aU O hx O 0 O O gp)<|pX O O<|pW O O (fun _=>aY O NU uF O O i rfl hlt (ad2 _ _ _))<|pV O O (fun x hx=>bV (u:= .slice A k0.x.l.length c) rfl (Hq.sub hx (fun x hx=>by rw [List.mem_singleton] at hx; subst hx; simp)) O hcc1 i (by rw [List.length_map]; exact hlt) rfl (by rw [List.getElem?_map,hk0]; exact congrArg some ev) uY) fun a hF=>?_
   refine pR hF<|pW O O (fun _=>ig O NG O)<|pW O O (fun _=>dW O NG nD O (.none 0) (.some rfl rfl) (Nl _) (Nv _) jc) fun a hF=>?_
   refine dG hF O O O O ae _ (fO O O) (fun h=>absurd h ae) (fun a hF=>?_)
   refine bI ?_
   refine hK19 _ _ ?_; clear  hK19 K19
   refine wS hF fun K20 hK20=>vX O<|vE hK20 fun a hF=>?_
   clear hK20 K20
   apply wp_block
   refine bH (G:=Nat) (fun j a x=>j≤c∧Fr 104 [(12,.int .i64 (j:Int)),(0,.pointer (some ⟨bb,0,none⟩)),(1,.func (.func 25) #[] #[]),(2,.func (.func 40) #[] #[]),(10,.int .i64 (i:Int)),(11,.slice A c c)] a∧Hp w0 ([row bb 74 [.slice (some ⟨gL,oL,none⟩) ks.length cL,.slice AW ks.length cW,.int .i64 held,.bool false]]::XL::XS.flatten::R) x) (fun j=>c-j) 0 (⟨Nl _,hF.keep [12,0,1,2,10,11] rfl,hA18⟩) ?_
   clear hF
   rintro j a w20 ⟨hj,hF,hA19⟩
   apply wp_seq_k; intro K21 hK21
   refine wS hF fun K22 hK22=>vX O<|vX O<|vV O (aT O NG O O)<|vV O (aF O O O O O)<|vE hK22 fun a hF=>?_
   clear hK22 K22
   by_cases hltj:j<c
   ·refine aG hF O (dF ag) ?_
    obtain ⟨hd1,hd2⟩:=lW (C:=VA.cells) (sz:=4) (l:=mkL ((fun i _=>jI i) i) c) (fun _ _=>rfl) (zh _ hltj)
    obtain ⟨b,o,rfl,hc⟩:=hrc.ne (i:=j*4) (Nat.lt_of_lt_of_le (Nat.lt_add_of_pos_right ae) hd2)
    apply wp_skip
    refine hK21 _ _ ?_; clear  hK21 K21
    apply wp_seq_k; intro K23 hK23
    apply wp_block
    apply wp_seq_k; intro K24 hK24
    refine aQ 9 [7,8,9] [0,1,2,3,4,5,6,7,8,9] _ af af (Hq.drew hA19.q) ?_
    have hA21:=Hl.drew hA19
    refine pR hF<|pX O O<|pX O O<|pX O O<|pW O O (fun _=>aY O NG nD O O j rfl hltj rfl)<|pV O O (fun x hx=>dK (new:=(jI i).cells) rfl (Hq.sub hx (fun x hx=>by rw [List.mem_singleton] at hx; subst hx; simp)) O hc (j*4) hd2 rfl hd1 Ho) fun a hF=>?_
    refine pR hF<|pX O O<|pX O O fun a hF=>?_
    refine fG O O O (fun K hK=>iP hF O ae yx rfl rfl rfl ?_)
    with_reducible refine (Ai (R:=([row bb 74 [.slice (some ⟨gL,oL,none⟩) ks.length cL,.slice AW ks.length cW,.int .i64 held,.bool false]]::XL::XS.flatten::R)) i _ ag hA21).mono ?_
    rintro e' w22 ⟨rfl,hA23⟩
    refine ⟨_,rfl,fun a hF=>hK _ _ (fun _=>?_) ?_⟩
    ·exact hA23.q
    clear hK K
    replace hA23:Hp w0 ([row bb 74 [.slice (some ⟨gL,oL,none⟩) ks.length cL,.slice AW ks.length cW,.int .i64 held,.bool false]]::XL::XS.flatten::R) w22:=hA23
    refine fG O O O (fun K hK=>iP hF O ae Bg rfl rfl rfl ?_)
    with_reducible refine (lS (R:=([row bb 74 [.slice (some ⟨gL,oL,none⟩) ks.length cL,.slice AW ks.length cW,.int .i64 held,.bool false]]::XL::XS.flatten::R)) (G:=[]) (H:=[]) (jI i) (jI i) _ (xH ag) (List.nil_subset _) (xH ag) (List.nil_subset _) hA23).mono ?_
    rintro e' w24 ⟨rfl,hA25⟩
    refine ⟨_,rfl,fun a hF=>hK _ _ (fun _=>?_) ?_⟩
    ·exact hA25.q
    clear hK K
    replace hA25:Hp w0 ([row bb 74 [.slice (some ⟨gL,oL,none⟩) ks.length cL,.slice AW ks.length cW,.int .i64 held,.bool false]]::XL::XS.flatten::R) w24:=hA25
    rw [decide_eq_true rfl] at hF
    refine dG hF O O O O ae _ (dm O O O) (fun h=>absurd h ae) (fun a hF=>?_)
    refine bI ?_
    refine hK24 _ _ ?_; clear  hK24 K24
    refine dn hF O ?_
    apply wp_skip
    refine hK23 _ _ ?_; clear  hK23 K23
    refine wp_region_lit ?_
    refine vR hF<|vX O<|vV O (bT O O O (Np _ ag))<|vX O fun a hF=>?_
    refine aH ?_
    exact ⟨j+1,ag,ag,hF.keep [12,0,1,2,10,11] rfl,hA25⟩
   ·refine au hF O (dE ag) ?_
    apply wp_exit
    refine hK18 _ _ ?_; clear hK21 K21 hK18 K18
    refine wp_region_lit ?_
    refine vR hF<|vX O<|vV O (bT O O O (Np _ ag))<|vX O fun a hF=>?_
    refine aH ?_
    exact ⟨i+1,ag,ag,hF.keep [10,0,1,2] rfl,hA19⟩
  ·refine au hF O (dE ag) ?_
   apply wp_exit
   refine hK14 _ _ ?_; clear hK16 K16 hK14 K14
   refine wS hF fun K25 hK25=>vX O<|vX O<|vV O (yf 0 O NT O dI O) fun a hF=>?_
   refine ax O (fun K hK=>aX hF O O hA16 O O 0 O (by simp) rfl dI (fun w26 hA27=>hK _ _ ?_))
   clear hK K
   replace hA27:Hp w0 ([row bb 74 [.slice none 0 0,.slice AW ks.length cW,.int .i64 held,.bool false]]::XL::XS.flatten::R) w26:=hA27
   refine aH<|hK25 _ _ ?_
   clear hK25 K25
   refine wS hF fun K26 hK26=>vX O<|vX O<|vV O (yf 1 O NT O dI O) fun a hF=>?_
   refine ax O (fun K hK=>aX hF O O hA27 O O 0 O (by simp) rfl dI (fun w28 hA29=>hK _ _ ?_))
   clear hK K
   replace hA29:Hp w0 ([row bb 74 [.slice none 0 0,.slice none 0 0,.int .i64 held,.bool false]]::XL::XS.flatten::R) w28:=hA29
   refine aH<|hK26 _ _ ?_
   clear hK26 K26
   refine wS hF fun K27 hK27=>vX O<|vX O<|vV O (yf 2 O NT O gZ O) fun a hF=>?_
   refine ax O (fun K hK=>aX hF O O hA29 O O 0 O (by simp) rfl gZ (fun w30 hA31=>hK _ _ ?_))
   clear hK K
   replace hA31:Hp w0 ([row bb 74 [.slice none 0 0,.slice none 0 0,.int .i64 0,.bool false]]::XL::XS.flatten::R) w30:=hA31
   refine aH<|hK27 _ _ ?_
   clear hK27 K27
   refine wS hF fun K28 hK28=>vX O<|vE hK28 fun a hF=>?_
   clear hK28 K28
   apply wp_ret
   refine aO hF Tryz.results39 O ?_
   have hA32:Hp w0 ([row bb 74 [.slice none 0 0,.slice none 0 0,.int .i64 0,.bool false]]::R) w30:=hpS 3 [0] [1,2] hA31 rfl
   exact ⟨rfl,hA32⟩
end Go.Proofs.YtepbmdlgdaedpaaGreatDoor
