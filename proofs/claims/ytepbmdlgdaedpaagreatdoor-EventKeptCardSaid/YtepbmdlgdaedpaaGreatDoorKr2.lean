/- Lists of values that are kept: kept, looked at. -/
import Derived.Test.YtepbmdlgdaedpaaGreatDoorKr
/- Lists of values that are kept: kept, looked at. -/
namespace Go.Proofs.YtepbmdlgdaedpaaGreatDoor
open Go.RowKit Go.Dk
theorem gp:bi Tryz.prog 72=true:=af
theorem dI:(Tryz.prog.info? 72).map (·.size)=some 1:=af
theorem ut:aK Tryz.prog 102:=⟨_,Tryz.func102,af,af⟩
set_option maxRecDepth 100000 in
set_option maxHeartbeats 8000000 in
theorem EE {lv wv:Value} {held:Int} (w0 w:World) (R:List Seg) (bb:Nat) (ks:List KeptR) (Y:Seg) (hb:RowsV ks lv wv Y) (hrd:∀ k∈ks,RRd w0 R k) (hA:Hp w0 ([row bb 74 [lv,wv,.int .i64 held,.bool false]]::Y::R) w):Calls Tryz.prog 103 #[.pointer (some ⟨bb,0,none⟩),.func (.func 25) #[] #[]] w fun e w'=>e= .returned (.bool true)∧Hp w0 ([row bb 74 [lv,wv,.int .i64 held,.bool false]]::Y::R) w':=by
 obtain ⟨hn4,XL,XW,hL,hW,hK,rfl⟩:=hb
 replace hA:Hp w0 ([row bb 74 [lv,wv,.int .i64 held,.bool false]]::XL::XW::aS (ks.map (·.x))::R) w:=hA.cast (by simp)
 obtain ⟨AL,cL,rfl,hcL⟩:=hL.slice
 obtain ⟨AW,cW,rfl,hcW⟩:=hW.slice
 refine aP Tryz.func103 O Tryz.ntmps103 ai (fun a hF=>?_)
 refine wS hF fun K1 hK1=>vX O<|vE hK1 fun a hF=>?_
 clear hK1 K1
 apply wp_seq_k; intro K2 hK2
 refine wS hF fun K3 hK3=>vX O<|vE hK3 fun a hF=>?_
 clear hK3 K3
 apply wp_block
 refine bH (G:=Nat) (fun i a x=>i≤ks.length∧Fr 46 [(5,.int .i64 (i:Int)),(0,.pointer (some ⟨bb,0,none⟩)),(1,.func (.func 25) #[] #[])] a∧Hp w0 ([row bb 74 [.slice AL ks.length cL,.slice AW ks.length cW,.int .i64 held,.bool false]]::XL::XW::aS (ks.map (·.x))::R) x) (fun i=>ks.length-i) 0 (⟨Nl _,hF.keep [5,0,1] rfl,hA⟩) ?_
 clear hF
 rintro i a w2 ⟨hi,hF,hA1⟩
 apply wp_seq_k; intro K4 hK4
 refine wS hF fun K5 hK5=>vX O<|vX O<|vX O<|vV O (yf 0 O NT O dI O)<|vV O (aU O hA1.q O 0 O O gp)<|vV O (aT O NU O O)<|vV O (aF O O O O O)<|vE hK5 fun a hF=>?_
 clear hK5 K5
 by_cases hlt:i<ks.length
 ·refine aG hF O (dF ag) ?_
  obtain ⟨k0,hk0⟩:∃ k0,ks[i]? = some k0:=⟨_,List.getElem?_eq_getElem hlt⟩
  have hmem:=List.mem_of_getElem? hk0
  obtain ⟨hk2,hk3,hk4,hk5⟩:=hK k0 hmem
  obtain ⟨hk6,hk7⟩:=hrd k0 hmem
  obtain ⟨B1,d1,ev1,_,_,hr1⟩:=hk3.rcIn (w0:=w0) (R:=[aS (ks.map (·.x))]) (lL hmem).1 (Nu ..)
  obtain ⟨B2,d2,ev2,_,_,hr2⟩:=hk4.rcIn (w0:=w0) (R:=[aS (ks.map (·.x))]) (lL hmem).2 (Nu ..)
  obtain ⟨_,_,f1,_,hc1⟩:=hL.rc (w0:=w0) (R:=[XL]) (Nu ..)
  injection f1 with f1 _ _
  subst f1
  obtain ⟨_,_,f2,_,hc2⟩:=hW.rc (w0:=w0) (R:=[XW]) (Nu ..)
  injection f2 with f2 _ _
  subst f2
  obtain ⟨gL,oL,rfl,hcc1⟩:=hc1.ne (i:=i) (by rw [List.length_map]; exact hlt)
  obtain ⟨gW,oW,rfl,hcc2⟩:=hc2.ne (i:=i) (by rw [List.length_map]; exact hlt)
  apply wp_skip
  refine hK4 _ _ ?_; clear  hK4 K4
  apply wp_seq_k; intro K6 hK6
  apply wp_block
  refine aQ 24 [21,24,25,26] [0,1,2,3,4,5,6,7,8,9,10,11,12,13,14,15,16,17,18,19,20,21,22,23,24,25,26] _ af af (Hq.drew hA1.q) ?_
  have hA3:=Hl.drew hA1
  refine pR hF<|pX O O<|pX O O<|pX O O<|pW O O (fun _=>yf 3 O NT O kL O)<|pV O O (fun x hx=>aU O hx O 0 O O kQ)<|pX O O<|pG O O (fun _=>aV O O)<|pG O O (fun _=>aZ O O)<|pG O O (fun _=>yf 0 O NT O dI O) fun a hF=>?_
  refine dD hF O O O O O O O ae _ (fun x hx=>aU O hx O 0 O O gp) (fun a hF=>?_)
  refine pR hF<|pG O O (fun _=>aV O O)<|pG O O (fun _=>aY O NU uF O O i rfl hlt (ad2 _ _ _)) fun a hF=>?_
  refine dD hF O O O O O O O ae _ (fun x hx=>bV (u:= .slice B1 k0.x.l.length d1) rfl (Hq.sub hx (fun x hx=>by rw [List.mem_singleton] at hx; subst hx; simp)) O hcc1 i (by rw [List.length_map]; exact hlt) rfl (by rw [List.getElem?_map,hk0]; exact congrArg some ev1) uY) (fun a hF=>?_)
  refine pR hF<|pG O O (fun _=>aV O O)<|pG O O (fun _=>aZ O O)<|pG O O (fun _=>yf 1 O NT O dI O) fun a hF=>?_
  refine dD hF O O O O O O O ae _ (fun x hx=>aU O hx O 0 O O gp) (fun a hF=>?_)
  refine pR hF<|pG O O (fun _=>aV O O)<|pG O O (fun _=>aY O NU uF O O i rfl hlt (ad2 _ _ _)) fun a hF=>?_
  refine dD hF O O O O O O O ae _ (fun x hx=>bV (u:= .slice B2 k0.m.length d2) rfl (Hq.sub hx (fun x hx=>by rw [List.mem_singleton] at hx; subst hx; simp)) O hcc2 i (by rw [List.length_map]; exact hlt) rfl (by rw [List.getElem?_map,hk0]; exact congrArg some ev2) uY) (fun a hF=>?_)
  refine pR hF<|pG O O (fun _=>aV O O) fun a hF=>?_
  refine kW hF O O O O O O (fun K hK=>ay hF O ae ut rfl rfl ?_)
  with_reducible refine (xM (R:=([row bb 74 [.slice (some ⟨gL,oL,none⟩) ks.length cL,.slice (some ⟨gW,oW,none⟩) ks.length cW,.int .i64 held,.bool false]]::XL::XW::aS (ks.map (·.x))::R)) B1 k0.x.l d1 B2 k0.m d2 _ hr1 (List.cons_subset.2 ⟨(Nw _ (Nw _ (Nw _ ((Nu ..))))),List.nil_subset _⟩) hr2 (List.cons_subset.2 ⟨(Nw _ (Nw _ (Nw _ ((Nu ..))))),List.nil_subset _⟩) (fun a ha=>(hk6 a ha).mono (bM (bM (bM (bM (dR)))))) (fun a ha=>(hk7 a ha).mono (bM (bM (bM (bM (dR)))))) hk5 hk2 hA3).mono ?_
  rintro e' w4 ⟨rfl,hA5⟩
  refine ⟨_,rfl,fun a hF=>hK _ _ (fun _=>?_) ?_⟩
  ·exact hA5.q
  clear hK K
  replace hA5:Hp w0 ([row bb 74 [.slice (some ⟨gL,oL,none⟩) ks.length cL,.slice (some ⟨gW,oW,none⟩) ks.length cW,.int .i64 held,.bool false]]::XL::XW::aS (ks.map (·.x))::R) w4:=hA5
  refine pR hF<|pG O O (fun _=>dm O O O)<|pW O O (fun _=>bP O O O) fun a hF=>?_
  refine dG hF O O O O ae _ (aZ O O) (fun h=>absurd h ae) (fun a hF=>?_)
  refine dG hF O O O O ae _ (yf 3 O NT O kL O) (fun h=>absurd h ae) (fun a hF=>?_)
  refine fG O O O (fun K hK=>aX hF O O hA5 O O 0 O (by simp) rfl kL (fun w6 hA7=>hK _ _ (fun h=>absurd h ae) ?_))
  clear hK K
  replace hA7:Hp w0 ([row bb 74 [.slice (some ⟨gL,oL,none⟩) ks.length cL,.slice (some ⟨gW,oW,none⟩) ks.length cW,.int .i64 held,.bool false]]::XL::XW::aS (ks.map (·.x))::R) w6:=hA7
  refine bI ?_
  refine hK6 _ _ ?_; clear  hK6 K6
  refine wp_region_lit ?_
  refine vR hF<|vX O<|vV O (bT O O O (Np _ ag))<|vX O fun a hF=>?_
  refine aH ?_
  exact ⟨i+1,ag,ag,hF.keep [5,0,1] rfl,hA7⟩
 ·refine au hF O (dE ag) ?_
  apply wp_exit
  refine hK2 _ _ ?_; clear hK4 K4 hK2 K2
  refine wS hF fun K7 hK7=>vX O<|vX O<|vV O (yf 3 O NT O kL O)<|vV O (aU O hA1.q O 0 O O kQ)<|vV O (dm O O O)<|vX O<|vE hK7 fun a hF=>?_
  clear hK7 K7
  apply wp_ret
  refine aO hF Tryz.results103 O ?_
  exact ⟨rfl,hA1.cast (by simp)⟩
set_option maxRecDepth 100000 in
set_option maxHeartbeats 8000000 in
theorem Aj {lv wv:Value} {held:Int} (w0 w:World) (R:List Seg) (bb:Nat) (ks:List KeptR) (Y X Z:Seg) (A0:Option Addr) (l:List VA) (c0:Nat) (A2:Option Addr) (m:List VA) (c2:Nat) (hb:RowsV ks lv wv Y) (hk4:ks.length<4000) (hX:Buf 25 4 X (.slice A0 l.length c0) l.length (cel VA.cells l)) (hZ:Buf 25 4 Z (.slice A2 m.length c2) m.length (cel VA.cells m)) (hlm:l.map VA.v=m.map VA.v) (hln:l.length≤9223372036854775807) (hrd:∀ k∈ks,RRd w0 R k) (hnew:(∀ a∈l,a.Ok w0 R)∧∀ a∈m,a.Ok w0 R) (hA:Hp w0 ([row bb 74 [lv,wv,.int .i64 held,.bool false]]::X::Z::Y::R) w):Calls Tryz.prog 37 #[.pointer (some ⟨bb,0,none⟩),.slice A0 l.length c0,.slice A2 m.length c2,.func (.func 25) #[] #[]] w fun e w'=>∃ ks' lv' wv' held' Y' DD,e= .returned (.tuple #[])∧RowsV ks' lv' wv' Y'∧ks'.length≤ks.length+1∧(∀ k∈ks',k∈ks∨k=⟨⟨.slice A0 l.length c0,l,X,.slice A2 m.length c2,Z⟩,m⟩)∧X⊆aS (ks'.map (·.x))∧Z⊆aS (ks'.map (·.x))∧(∀ r∈aS (ks.map (·.x)),r∈aS (ks'.map (·.x))∨r∈DD)∧Hp w0 ([row bb 74 [lv',wv',.int .i64 held',.bool false]]::Y'::DD::R) w':=by
 obtain ⟨hn4,XL,XW,hL,hW,hK,rfl⟩:=hb
 have hz4:(ks.length+1+(ks.length+1)/4+192)*24≤281474976710656:=by clear hA hK hL hW; omega
 replace hA:Hp w0 ([row bb 74 [lv,wv,.int .i64 held,.bool false]]::X::Z::XL::XW::aS (ks.map (·.x))::R) w:=hA.cast (by simp)
 obtain ⟨AL,cL,rfl,hcL⟩:=hL.slice
 obtain ⟨AW,cW,rfl,hcW⟩:=hW.slice
 obtain ⟨kn,hkn⟩:∃ kn:KeptR,kn=⟨⟨.slice A0 l.length c0,l,X,.slice A2 m.length c2,Z⟩,m⟩:=⟨_,rfl⟩
 have hkk:ROK kn:=by rw [hkn]; exact ⟨hln,hX,hZ,hlm⟩
 have hkr:RRd w0 R kn:=by rw [hkn]; exact hnew
 refine aP Tryz.func37 O Tryz.ntmps37 ai (fun a hF=>?_)
 refine wS hF fun K1 hK1=>vX O<|vX O<|vX O<|vV O (yf 0 O NT O dI O)<|vV O (aU O hA.q O 0 O O gp)<|vX O fun a hF=>?_
 refine ax O (fun K hK=>jL (u1:= .slice A0 l.length c0) hF O ae rfl hA O (Jw _ _ _) (fun b1 w2 a hb1 hF hA3=>hK _ _ ?_))
 clear hK K
 refine ax O (fun K hK=>cO hF O ae rfl hA3 4 O hL NU xK rfl rfl (Rc.srcC (W:=[.slice A0 l.length c0]) (m:=1) (size:=1) (R:=[row b1 26 [.slice A0 l.length c0]]::[row bb 74 [.slice AL ks.length cL,.slice AW ks.length cW,.int .i64 held,.bool false]]::X::Z::XL::XW::aS (ks.map (·.x))::R) (Rc.ofRow (i:=0) (off:=0) rfl rfl) hA3.q NU ae rfl (by simp [Value.oneCell'])) (hz4) ae (fun lv2 XL2 w4 a hL2 hF hA5=>hK _ _ ?_))
 clear hK K
 refine vR hF<|vX O<|vV O (yf 0 O NT O dI O) fun a hF=>?_
 refine ax O (fun K hK=>aX hF O O hA5 O O 1 O (by simp) hL2.one dI (fun w6 hA7=>hK _ _ ?_))
 clear hK K
 replace hA7:Hp w0 ([row b1 26 [.slice A0 l.length c0]]::[row bb 74 [lv2,.slice AW ks.length cW,.int .i64 held,.bool false]]::X::Z::XL2::XW::aS (ks.map (·.x))::R) w6:=hA7
 refine aH<|hK1 _ _ ?_
 clear hK1 K1
 refine wS hF fun K2 hK2=>vX O<|vX O<|vX O<|vV O (yf 1 O NT O dI O)<|vV O (aU O hA7.q O 1 O O gp)<|vX O fun a hF=>?_
 refine ax O (fun K hK=>jL (u1:= .slice A2 m.length c2) hF O ae rfl hA7 O (Jw _ _ _) (fun b8 w9 a hb8 hF hA10=>hK _ _ ?_))
 clear hK K
 refine ax O (fun K hK=>cO hF O ae rfl hA10 6 O hW NU xK rfl rfl (Rc.srcC (W:=[.slice A2 m.length c2]) (m:=1) (size:=1) (R:=[row b8 26 [.slice A2 m.length c2]]::[row b1 26 [.slice A0 l.length c0]]::[row bb 74 [lv2,.slice AW ks.length cW,.int .i64 held,.bool false]]::X::Z::XL2::XW::aS (ks.map (·.x))::R) (Rc.ofRow (i:=0) (off:=0) rfl rfl) hA10.q NU ae rfl (by simp [Value.oneCell'])) (hz4) ae (fun wv2 XW2 w11 a hW2 hF hA12=>hK _ _ ?_))
 clear hK K
 refine vR hF<|vX O<|vV O (yf 1 O NT O dI O) fun a hF=>?_
 refine ax O (fun K hK=>aX hF O O hA12 O O 2 O (by simp) hW2.one dI (fun w13 hA14=>hK _ _ ?_))
 clear hK K
 replace hA14:Hp w0 ([row b8 26 [.slice A2 m.length c2]]::[row b1 26 [.slice A0 l.length c0]]::[row bb 74 [lv2,wv2,.int .i64 held,.bool false]]::X::Z::XL2::XW2::aS (ks.map (·.x))::R) w13:=hA14
 refine aH<|hK2 _ _ ?_
 clear hK2 K2
 refine wS hF fun K3 hK3=>vX O<|vX O<|vX O<|vV O (yf 2 O NT O gZ O)<|vV O (aU O hA14.q O 2 O O jZ)<|vX O<|vV O (ig O NG O)<|vV O (bT (r:=gu held c0) rfl rfl rfl rfl)<|vV O (bT (r:=gu (gu held c0) 1) rfl rfl rfl rfl)<|vX O<|vV O (yf 2 O NT O gZ O) fun a hF=>?_
 refine ax O (fun K hK=>aX hF O O hA14 O O 2 O (by simp) rfl gZ (fun w15 hA16=>hK _ _ ?_))
 clear hK K
 replace hA16:Hp w0 ([row b8 26 [.slice A2 m.length c2]]::[row b1 26 [.slice A0 l.length c0]]::[row bb 74 [lv2,wv2,.int .i64 (gu (gu held c0) 1),.bool false]]::X::Z::XL2::XW2::aS (ks.map (·.x))::R) w15:=hA16
 refine aH<|hK3 _ _ ?_
 clear hK3 K3
 apply wp_block
 have hA17:Hp w0 ([row bb 74 [lv2,wv2,.int .i64 (gu (gu held c0) 1),.bool false]]::XL2::XW2::aS (ks.map (·.x))::X::Z::R) w15:=hpS 8 [2,5,6,7,3,4] [0,1] hA16 rfl
 clear hz4
 have hK2:∀ k∈ks++[kn],ROK k:=fun k hk=>by
  rcases List.mem_append.1 hk with hk | hk
  ·exact hK k hk
  ·rw [List.mem_singleton] at hk; rw [hk]; exact hkk
 have hL3:Buf 26 1 XL2 lv2 (ks++[kn]).length ((ks++[kn]).map (·.x.v)):=by rw [List.length_append,List.map_append,hkn]; exact hL2
 have hW3:Buf 26 1 XW2 wv2 (ks++[kn]).length ((ks++[kn]).map (·.x.cv)):=by rw [List.length_append,List.map_append,hkn]; exact hW2
 have hin2:∀ k∈ks++[kn],k∈ks∨k=kn:=fun k hk=>by
  rcases List.mem_append.1 hk with hk | hk
  ·exact .inl hk
  ·exact .inr (List.mem_singleton.1 hk)
 have hrd2:∀ k,k∈ks∨k=kn→RRd w0 R k:=fun k hk=>by
  rcases hk with hk | hk
  ·exact hrd k hk
  ·rw [hk]; exact hkr
 have hA18:Hp w0 ([row bb 74 [lv2,wv2,.int .i64 (gu (gu held c0) 1),.bool false]]::XL2::XW2::aS ((ks++[kn]).map (·.x))::([]:Seg)::R) w15:=hA17.cast (by rw [hkn]; simp [aS])
 refine bH (G:=Nat) (fun i a x=>∃ (qs:List KeptR) (lv3:Value) (wv3:Value) (hd3:Int) (XL3:Seg) (XW3:Seg) (DD:Seg),(∀ r∈aS ((ks++[kn]).map (·.x)),r∈aS (qs.map (·.x))∨r∈DD)∧i=qs.length∧qs.getLast? = some kn∧qs.length≤ks.length+1∧(∀ k∈qs,k∈ks∨k=kn)∧(∀ k∈qs,ROK k)∧Buf 26 1 XL3 lv3 qs.length (qs.map (·.x.v))∧Buf 26 1 XW3 wv3 qs.length (qs.map (·.x.cv))∧Fr 108 [(0,.pointer (some ⟨bb,0,none⟩)),(3,.func (.func 25) #[] #[])] a∧Hp w0 ([row bb 74 [lv3,wv3,.int .i64 hd3,.bool false]]::XL3::XW3::aS (qs.map (·.x))::DD::R) x) (fun i=>i) (ks++[kn]).length (⟨ks++[kn],_,_,_,_,_,[],(fun r hr=> .inl hr),rfl,by simp,by rw [List.length_append]; simp,hin2,hK2,hL3,hW3,hF.keep [0,3] rfl,hA18⟩) ?_
 clear hF
 rintro i a w20 ⟨qs,lv3,wv3,hd3,XL3,XW3,DD,hDD,hi,hlast,hq4,hqin,hKq,hLq,hWq,hF,hA19⟩
 obtain ⟨AL,cL,rfl,hcL⟩:=hLq.slice
 obtain ⟨AW,cW,rfl,hcW⟩:=hWq.slice
 by_cases h1:1<qs.length
 ·by_cases h2:100000<hd3
  ·apply wp_seq_k; intro K4 hK4
   refine wS hF fun K5 hK5=>vX O<|vX O<|vV O (yf 0 O NT O dI O)<|vV O (aU O hA19.q O 0 O O gp)<|vV O (aT O NU O O)<|vV O (aF O O O O (dY ag))<|vX O fun a hF=>?_
   refine aJ hF O O O O (ak rfl) ae _ (aV O O) (fun a hF=>?_)
   refine aJ hF O O O O (ak rfl) ae _ (aZ O O) (fun a hF=>?_)
   refine aJ hF O O O O (ak rfl) ae _ (yf 2 O NT O gZ O) (fun a hF=>?_)
   refine aJ hF O O O O (ak rfl) ae _ (aU O hA19.q O 0 O O jZ) (fun a hF=>?_)
   refine aJ hF O O O O (ak rfl) ae _ (aF O O O O (dY ag)) (fun a hF=>?_)
   refine vR hF<|vV O (bF O O O O)<|vE hK5 fun a hF=>?_
   clear hK5 K5
   refine gz hF O ?_
   obtain ⟨k0,kr,rfl⟩:∃ k0 kr,qs=k0::kr:=by
    cases qs with
    | nil=>exact absurd h1 (Nat.not_lt_zero _)
    | cons k0 kr=>exact ⟨k0,kr,rfl⟩
   have hlastr:kr.getLast? = some kn:=by
    cases kr with
    | nil=>simp at h1
    | cons k1 kr=>rw [List.getLast?_cons_cons] at hlast; exact hlast
   obtain ⟨gL,cL',oL,eL,hLt⟩:=Buf.tail (m:=kr.length) (W:=kr.map (·.x.v)) (u:=k0.x.v) hLq
   injection eL with eL _ eLc
   subst eL eLc
   obtain ⟨gW,cW',oW,eW,hWt⟩:=Buf.tail (m:=kr.length) (W:=kr.map (·.x.cv)) (u:=k0.x.cv) hWq
   injection eW with eW _ eWc
   subst eW eWc
   obtain ⟨hk2,hk3,hk4,hk5⟩:=hKq k0 (Nu ..)
   obtain ⟨hk6,hk7⟩:=hrd2 k0 (hqin k0 (Nu ..))
   obtain ⟨B1,d1,ev1,_,_,hr1⟩:=hk3.rcIn (w0:=w0) (R:=[aS ((k0::kr).map (·.x))]) (lL (Nu ..)).1 (Nu ..)
   obtain ⟨B2,d2,ev2,_,_,hr2⟩:=hk4.rcIn (w0:=w0) (R:=[aS ((k0::kr).map (·.x))]) (lL (Nu ..)).2 (Nu ..)
   obtain ⟨_,_,f1,_,hc1⟩:=hLq.rc (w0:=w0) (R:=[XL3]) (Nu ..)
   injection f1 with f1 _ _
   subst f1
   obtain ⟨_,_,f2,_,hc2⟩:=hWq.rc (w0:=w0) (R:=[XW3]) (Nu ..)
   injection f2 with f2 _ _
   subst f2
   obtain ⟨_,_,f1,hcc1⟩:=hc1.ne (i:=0) (by simp)
   injection f1 with f1
   injection f1 with f1 f1'
   subst f1 f1'
   obtain ⟨_,_,f2,hcc2⟩:=hc2.ne (i:=0) (by simp)
   injection f2 with f2
   injection f2 with f2 f2'
   subst f2 f2'
   apply wp_skip
   refine hK4 _ _ ?_; clear  hK4 K4
   apply wp_block
   apply wp_seq_k; intro K6 hK6
   refine aQ 24 [19,24] [0,1,2,3,4,5,6,7,8,9,10,11,12,13,14,15,16,17,18,19,20,21,22,23,24] (fun x=>Hq w0 ([row bb 74 [.slice (some ⟨gL,oL,none⟩) ((k0::kr).length) (cL'+1),.slice (some ⟨gW,oW,none⟩) ((k0::kr).length) (cW'+1),.int .i64 hd3,.bool false]]::XL3::XW3::aS ((k0::kr).map (·.x))::R) x) af af (Hq.drew (Hp.qp [[row bb 74 [.slice (some ⟨gL,oL,none⟩) ((k0::kr).length) (cL'+1),.slice (some ⟨gW,oW,none⟩) ((k0::kr).length) (cW'+1),.int .i64 hd3,.bool false]],XL3,XW3,aS ((k0::kr).map (·.x)),DD] R [0,1,2,3] hA19)) ?_
   have hA21:=Hl.drew hA19
   refine pR hF<|pX O O<|pX O O<|pX O O<|pW O O (fun _=>yf 3 O NT O kL O)<|pV O O (fun x hx=>aU O hx O 0 O O kQ)<|pX O O<|pG O O (fun _=>aV O O)<|pG O O (fun _=>aZ O O)<|pG O O (fun _=>yf 0 O NT O dI O) fun a hF=>?_
   refine dD hF O O O O O O O ae _ (fun x hx=>aU O hx O 0 O O gp) (fun a hF=>?_)
   refine pR hF<|pG O O (fun _=>aY O NU uF O O 0 O (by simp) (ad2 _ _ _)) fun a hF=>?_
   refine dD hF O O O O O O O ae _ (fun x hx=>bV (u:= .slice B1 k0.x.l.length d1) rfl (Hq.sub hx (fun x hx=>by rw [List.mem_singleton] at hx; subst hx; simp)) O hcc1 0 (by simp) rfl (show ((k0::kr).map (·.x.v))[0]? = _ from congrArg some ev1) uY) (fun a hF=>?_)
   refine pR hF<|pG O O (fun _=>aV O O)<|pG O O (fun _=>aZ O O)<|pG O O (fun _=>yf 1 O NT O dI O) fun a hF=>?_
   refine dD hF O O O O O O O ae _ (fun x hx=>aU O hx O 0 O O gp) (fun a hF=>?_)
   refine pR hF<|pG O O (fun _=>aY O NU uF O O 0 O (by simp) (ad2 _ _ _)) fun a hF=>?_
   refine dD hF O O O O O O O ae _ (fun x hx=>bV (u:= .slice B2 k0.m.length d2) rfl (Hq.sub hx (fun x hx=>by rw [List.mem_singleton] at hx; subst hx; simp)) O hcc2 0 (by simp) rfl (show ((k0::kr).map (·.x.cv))[0]? = _ from congrArg some ev2) uY) (fun a hF=>?_)
   refine pR hF<|pG O O (fun _=>aV O O) fun a hF=>?_
   refine kW hF O O O O O O (fun K hK=>ay hF O ae ut rfl rfl ?_)
   with_reducible refine (xM (R:=([row bb 74 [.slice (some ⟨gL,oL,none⟩) ((k0::kr).length) (cL'+1),.slice (some ⟨gW,oW,none⟩) ((k0::kr).length) (cW'+1),.int .i64 hd3,.bool false]]::XL3::XW3::aS ((k0::kr).map (·.x))::DD::R)) B1 k0.x.l d1 B2 k0.m d2 _ hr1 (List.cons_subset.2 ⟨(Nw _ (Nw _ (Nw _ ((Nu ..))))),List.nil_subset _⟩) hr2 (List.cons_subset.2 ⟨(Nw _ (Nw _ (Nw _ ((Nu ..))))),List.nil_subset _⟩) (fun a ha=>(hk6 a ha).mono (bM (bM (bM (bM (bM (dR))))))) (fun a ha=>(hk7 a ha).mono (bM (bM (bM (bM (bM (dR))))))) hk5 hk2 hA21).mono ?_
   rintro e' w22 ⟨rfl,hA23⟩
   refine ⟨_,rfl,fun a hF=>hK _ _ (fun _=>?_) ?_⟩
   ·exact Hp.qp [[row bb 74 [.slice (some ⟨gL,oL,none⟩) ((k0::kr).length) (cL'+1),.slice (some ⟨gW,oW,none⟩) ((k0::kr).length) (cW'+1),.int .i64 hd3,.bool false]],XL3,XW3,aS ((k0::kr).map (·.x)),DD] R [0,1,2,3] hA23
   clear hK K
   refine pR hF<|pG O O (fun _=>dm O O O)<|pW O O (fun _=>bP O O O)<|pX O O<|pW O O (fun _=>yf 3 O NT O kL O) fun a hF=>?_
   refine fG O O O (fun K hK=>aX hF O O hA23 O O 0 O (by simp) rfl kL (fun w24 hA25=>hK _ _ (fun h=>absurd h ae) ?_))
   clear hK K
   replace hA25:Hp w0 ([row bb 74 [.slice (some ⟨gL,oL,none⟩) ((k0::kr).length) (cL'+1),.slice (some ⟨gW,oW,none⟩) ((k0::kr).length) (cW'+1),.int .i64 hd3,.bool false]]::XL3::XW3::aS ((k0::kr).map (·.x))::DD::R) w24:=hA25
   refine bI ?_
   refine hK6 _ _ ?_; clear  hK6 K6
   apply wp_seq_k; intro K7 hK7
   refine aQ 16 [16] [0,1,2,3,4,5,6,7,8,9,10,11,12,13,14,15,16] _ af af (Hq.drew hA25.q) ?_
   have hA26:=Hl.drew hA25
   refine pR hF<|pX O O<|pX O O<|pX O O<|pW O O (fun _=>yf 2 O NT O gZ O)<|pV O O (fun x hx=>aU O hx O 0 O O jZ)<|pX O O<|pX O O<|pW O O (fun _=>yf 0 O NT O dI O)<|pV O O (fun x hx=>aU O hx O 0 O O gp)<|pW O O (fun _=>aY O NU uF O O 0 O (by simp) (ad2 _ _ _))<|pV O O (fun x hx=>bV (u:= .slice B1 k0.x.l.length d1) rfl (Hq.sub hx (fun x hx=>by rw [List.mem_singleton] at hx; subst hx; simp)) O hcc1 0 (by simp) rfl (show ((k0::kr).map (·.x.v))[0]? = _ from congrArg some ev1) uY) fun a hF=>?_
   refine pR hF<|pW O O (fun _=>ig O NG O)<|pW O O (fun _=>eu (r:=dA hd3 d1) rfl rfl rfl rfl)<|pW O O (fun _=>eu (r:=dA (dA hd3 d1) 1) rfl rfl rfl rfl)<|pX O O<|pW O O (fun _=>yf 2 O NT O gZ O) fun a hF=>?_
   refine fG O O O (fun K hK=>aX hF O O hA26 O O 0 O (by simp) rfl gZ (fun w27 hA28=>hK _ _ (fun h=>absurd h ae) ?_))
   clear hK K
   replace hA28:Hp w0 ([row bb 74 [.slice (some ⟨gL,oL,none⟩) ((k0::kr).length) (cL'+1),.slice (some ⟨gW,oW,none⟩) ((k0::kr).length) (cW'+1),.int .i64 (dA (dA hd3 d1) 1),.bool false]]::XL3::XW3::aS ((k0::kr).map (·.x))::DD::R) w27:=hA28
   refine bI ?_
   refine hK7 _ _ ?_; clear  hK7 K7
   refine wS hF fun K8 hK8=>vX O<|vX O<|vX O<|vV O (yf 0 O NT O dI O)<|vV O (aU O hA28.q O 0 O O gp)<|vV O (dW (v:= .slice (some ⟨gL,oL+1,none⟩) kr.length cL') rfl NU uF O (.some (k:=1) rfl rfl) (.none _) (by simp) ag (by rw [show (k0::kr).length-1=kr.length from rfl,show cL'+1-1=cL' from rfl]; unfold sub; rw [if_neg (by simp at hcL; simp at h1; omega),Option.map_some,Addr.add_mid])) fun a hF=>?_
   refine vR hF<|vX O<|vV O (yf 0 O NT O dI O) fun a hF=>?_
   refine ax O (fun K hK=>aX hF O O hA28 O O 0 O (by simp) rfl dI (fun w29 hA30=>hK _ _ ?_))
   clear hK K
   replace hA30:Hp w0 ([row bb 74 [.slice (some ⟨gL,oL+1,none⟩) kr.length cL',.slice (some ⟨gW,oW,none⟩) ((k0::kr).length) (cW'+1),.int .i64 (dA (dA hd3 d1) 1),.bool false]]::XL3::XW3::aS ((k0::kr).map (·.x))::DD::R) w29:=hA30
   refine aH<|hK8 _ _ ?_
   clear hK8 K8
   refine wp_region_lit ?_
   refine vR hF<|vX O<|vX O<|vX O<|vV O (yf 1 O NT O dI O)<|vV O (aU O hA30.q O 0 O O gp)<|vV O (dW (v:= .slice (some ⟨gW,oW+1,none⟩) kr.length cW') rfl NU uF O (.some (k:=1) rfl rfl) (.none _) (by simp) ag (by rw [show (k0::kr).length-1=kr.length from rfl,show cW'+1-1=cW' from rfl]; unfold sub; rw [if_neg (by simp at hcW; simp at h1; omega),Option.map_some,Addr.add_mid])) fun a hF=>?_
   refine vR hF<|vX O<|vV O (yf 1 O NT O dI O) fun a hF=>?_
   refine ax O (fun K hK=>aX hF O O hA30 O O 0 O (by simp) rfl dI (fun w31 hA32=>hK _ _ ?_))
   clear hK K
   replace hA32:Hp w0 ([row bb 74 [.slice (some ⟨gL,oL+1,none⟩) kr.length cL',.slice (some ⟨gW,oW+1,none⟩) kr.length cW',.int .i64 (dA (dA hd3 d1) 1),.bool false]]::XL3::XW3::aS ((k0::kr).map (·.x))::DD::R) w31:=hA32
   refine aH ?_
   have hA33:Hp w0 ([row bb 74 [.slice (some ⟨gL,oL+1,none⟩) kr.length cL',.slice (some ⟨gW,oW+1,none⟩) kr.length cW',.int .i64 (dA (dA hd3 d1) 1),.bool false]]::XL3::XW3::aS (kr.map (·.x))::((k0.x.X++k0.x.Z)++DD)::R) w31:=Hl.perm hA32 (by
    simp only [List.flatten_cons,aS,List.map_cons,List.flatMap_cons,List.append_assoc]
    refine List.Perm.append_left _ (List.Perm.append_left _ (List.Perm.append_left _ ?_))
    exact nK _ _ _ _ _)
   exact ⟨kr.length,by rw [hi]; exact Nat.lt_succ_self _,kr,_,_,_,XL3,XW3,((k0.x.X++k0.x.Z)++DD),(fun r hr=>by
    rcases hDD r hr with h | h
    ·unfold aS at h; rw [List.map_cons,List.flatMap_cons] at h
     rcases List.mem_append.1 h with h | h
     ·exact .inr (Nr _ h)
     ·exact .inl h
    ·exact .inr (Ns _ h)),rfl,hlastr,by simp at hq4; omega,(fun k hk=>hqin k (Nw _ hk)),(fun k hk=>hKq k (Nw _ hk)),hLt,hWt,hF.keep [0,3] rfl,hA33⟩
  ·apply wp_seq_k; intro K9 hK9
   refine wS hF fun K10 hK10=>vX O<|vX O<|vV O (yf 0 O NT O dI O)<|vV O (aU O hA19.q O 0 O O gp)<|vV O (aT O NU O O)<|vV O (aF O O O O (dY ag))<|vX O fun a hF=>?_
   refine aJ hF O O O O (ak rfl) ae _ (aV O O) (fun a hF=>?_)
   refine aJ hF O O O O (ak rfl) ae _ (aZ O O) (fun a hF=>?_)
   refine aJ hF O O O O (ak rfl) ae _ (yf 2 O NT O gZ O) (fun a hF=>?_)
   refine aJ hF O O O O (ak rfl) ae _ (aU O hA19.q O 0 O O jZ) (fun a hF=>?_)
   refine aJ hF O O O O (ak rfl) ae _ (aF O O O O (fE ag)) (fun a hF=>?_)
   refine vR hF<|vV O (bF O O O O)<|vE hK10 fun a hF=>?_
   clear hK10 K10
   refine dn hF O ?_
   apply wp_exit
   simp only [Exit.then,Exit.inBlock,↓reduceIte]
   refine gJ hF Tryz.results37 ?_
   refine ⟨qs,.slice AL qs.length cL,.slice AW qs.length cW,hd3,XL3++(XW3++aS (qs.map (·.x))),DD,rfl,⟨ ag,XL3,XW3,hLq,hWq,hKq,rfl⟩,hq4,by rw [← hkn]; exact hqin,fun r hr=>?_,fun r hr=>?_,fun r hr=>?_,hA19.cast (by simp)⟩
   rotate_left
   ·have h9:=(lL (List.mem_of_getLast? hlast)).2
    rw [hkn] at h9
    exact h9 hr
   ·rcases hDD r (by rw [List.map_append]; unfold aS; rw [List.flatMap_append]; exact Nr _ hr) with h | h
    ·exact .inl h
    ·exact .inr h
   have h9:=(lL (List.mem_of_getLast? hlast)).1
   rw [hkn] at h9
   exact h9 hr
 ·apply wp_seq_k; intro K11 hK11
  refine wS hF fun K12 hK12=>vX O<|vX O<|vV O (yf 0 O NT O dI O)<|vV O (aU O hA19.q O 0 O O gp)<|vV O (aT O NU O O)<|vV O (aF O O O O (fE ag))<|vX O fun a hF=>?_
  refine az hF O O O O O (aB rfl) ae (fun a hF=>?_)
  refine az hF O O O O O (aB rfl) ae (fun a hF=>?_)
  refine az hF O O O O O (aB rfl) ae (fun a hF=>?_)
  refine az hF O O O O O (aB rfl) ae (fun a hF=>?_)
  refine az hF O O O O O (aB rfl) ae (fun a hF=>?_)
  refine vR hF<|vV O (bu O O O O)<|vE hK12 fun a hF=>?_
  clear hK12 K12
  refine dn hF O ?_
  apply wp_exit
  simp only [Exit.then,Exit.inBlock,↓reduceIte]
  refine gJ hF Tryz.results37 ?_
  refine ⟨qs,.slice AL qs.length cL,.slice AW qs.length cW,hd3,XL3++(XW3++aS (qs.map (·.x))),DD,rfl,⟨ ag,XL3,XW3,hLq,hWq,hKq,rfl⟩,hq4,by rw [← hkn]; exact hqin,fun r hr=>?_,fun r hr=>?_,fun r hr=>?_,hA19.cast (by simp)⟩
  rotate_left
  ·have h9:=(lL (List.mem_of_getLast? hlast)).2
   rw [hkn] at h9
   exact h9 hr
  ·rcases hDD r (by rw [List.map_append]; unfold aS; rw [List.flatMap_append]; exact Nr _ hr) with h | h
   ·exact .inl h
   ·exact .inr h
  have h9:=(lL (List.mem_of_getLast? hlast)).1
  rw [hkn] at h9
  exact h9 hr
end Go.Proofs.YtepbmdlgdaedpaaGreatDoor
