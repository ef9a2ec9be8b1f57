/- The statements' books of memory: keep, stays, apart, marks. -/
import Derived.Test.YtepbmdlgdaedpaaGreatDoorBook1
/- The statements' books of memory: keep, stays, apart, marks. -/
set_option maxRecDepth 100000
set_option maxHeartbeats 4000000
namespace Go.Proofs.YtepbmdlgdaedpaaGreatDoor
open Go.RowKit Go.Dk
theorem nK {α:Type} (a b c d e:List α):(a++(b++(c++(d++e)))).Perm (c++(a++(b++(d++e)))):=by
 have h1:(a++(b++(c++(d++e))))=(a++b)++(c++(d++e)):=by simp only [List.append_assoc]
 have h2:(c++(a++(b++(d++e))))=c++((a++b)++(d++e)):=by simp only [List.append_assoc]
 rw [h1,h2]
 exact List.perm_append_comm_assoc _ _ _
theorem jk:bi Tryz.prog 3=true:=af
theorem lK:bi Tryz.prog 4=true:=af
theorem jV:bi Tryz.prog 23=true:=af
theorem jU:bi Tryz.prog 27=true:=af
theorem eP:bi Tryz.prog 63=true:=af
theorem eH:bi Tryz.prog 68=true:=af
theorem fB:(Tryz.prog.info? 3).map (·.size)=some 1:=af
theorem gm:(Tryz.prog.info? 4).map (·.size)=some 1:=af
theorem jT:(Tryz.prog.info? 23).map (·.size)=some 1:=af
theorem jS:(Tryz.prog.info? 27).map (·.size)=some 1:=af
theorem dh:(Tryz.prog.info? 63).map (·.size)=some 1:=af
theorem df:(Tryz.prog.info? 68).map (·.size)=some 1:=af
theorem vZ:aK Tryz.prog 86:=⟨_,Tryz.func86,af,af⟩
theorem vW:aK Tryz.prog 92:=⟨_,Tryz.func92,af,af⟩
theorem rf (A:Option Addr) (n c:Nat) (w:World):(Instr.buildSlice 63 1 #[(0,.slice A n c)]).run Tryz.prog w= .ok (.slice (some ⟨w.heap.size,0,none⟩) 1 1) (w.alloc (.cells #[.slice A n c] 27)):=af
theorem mP:gV Tryz.prog 27 1 24:=iC (z:= .slice none 0 0) af af
theorem vg:gV Tryz.prog 5 1 1:=iC (z:= .int .u8 0) af af
theorem jX:(Tryz.prog.info? 27).map (·.size)=some 1:=af
theorem iD {lv wv:Value} {BT:TypeId} {held:Int} (w0 w:World) (R:List Seg) (bb:Nat) (ks:List (KeptX (UInt8))) (Y X:Seg) (lv0:Value) (l:List (UInt8)) (hb:BookV cB 27 5 1 ks lv wv Y) (hX:Buf 5 1 X lv0 l.length (cel cB l)) (hl1:∀ x∈l,(cB x).length=1) (hlm:l.length≤9223372036854775807) (hl:(l.length+l.length/4+192)*1≤281474976710656) (hA:Hp w0 (X::[row bb BT [lv,wv,.int .i64 held,.bool false]]::Y::R) w):Calls Tryz.prog 30 #[.pointer (some ⟨bb,0,none⟩),lv0] w fun e w'=>∃ ks' lv' wv' held' Y' DD,e= .returned (.tuple #[])∧BookV cB 27 5 1 ks' lv' wv' Y'∧X⊆aS ks'∧(∀ r∈aS ks,r∈aS ks'∨r∈DD)∧Hp w0 ([row bb BT [lv',wv',.int .i64 held',.bool false]]::Y'::DD::R) w':=by
 have hzl:(0+l.length+(0+l.length)/4+192)*1≤281474976710656:=by rw [Nat.zero_add]; exact hl
 clear hl
 obtain ⟨hn4,XL,XW,hL,hW,hK,rfl⟩:=hb
 have hz4:(ks.length+1+(ks.length+1)/4+192)*24≤281474976710656:=by clear hlm hzl hl1 hX hA hK hL hW; omega
 obtain ⟨A0,c0,rfl,hc0,hc0m⟩:=hX.cap
 have hX0:=hX
 have h1:Hp w0 (X::[row bb BT [lv,wv,.int .i64 held,.bool false]]::XL::XW::aS ks::R) w:=hA.cast (by simp)
 replace hA:Hp w0 ([row bb BT [lv,wv,.int .i64 held,.bool false]]::X::XL::XW::aS ks::R) w:=Hp.ord [X,[row bb BT [lv,wv,.int .i64 held,.bool false]]] (XL::XW::aS ks::R) [1,0] h1 rfl
 clear h1
 obtain ⟨AL,cL,rfl,hcL⟩:=hL.slice
 obtain ⟨AW,cW,rfl,hcW⟩:=hW.slice
 obtain ⟨_,_,e0,_,hR0⟩:=hX.rc (w0:=w0) (R:=[X]) (Nu ..)
 injection e0 with e0 _ _
 subst e0
 refine aP Tryz.func30 O Tryz.ntmps30 ai (fun a hF=>?_)
 refine wS hF fun K1 hK1=>vX O<|vX O<|vX O<|vV O (yf 0 O NP O dh O)<|vV O (aU O hA.q O 0 O O eP)<|vX O fun a hF=>?_
 refine ax O (fun K hK=>jL (u1:= .slice A0 l.length c0) hF O ae rfl hA O (rf _ _ _) (fun b1 w2 a hb1 hF hA3=>hK _ _ ?_))
 clear hK K
 refine ax O (fun K hK=>cO hF O ae rfl hA3 3 O hL NQ mP rfl rfl (Rc.srcC (W:=[.slice A0 l.length c0]) (m:=1) (size:=1) (R:=[row b1 27 [.slice A0 l.length c0]]::[row bb BT [.slice AL ks.length cL,.slice AW ks.length cW,.int .i64 held,.bool false]]::X::XL::XW::aS ks::R) (Rc.ofRow (i:=0) (off:=0) rfl rfl) hA3.q NQ ae rfl (by simp [Value.oneCell'])) (hz4) ae (fun lv2 XL2 w4 a hL2 hF hA5=>hK _ _ ?_))
 clear hK K
 refine vR hF<|vX O<|vV O (yf 0 O NP O dh O) fun a hF=>?_
 refine ax O (fun K hK=>aX hF O O hA5 O O 1 O (by simp) hL2.one dh (fun w6 hA7=>hK _ _ ?_))
 clear hK K
 replace hA7:Hp w0 ([row b1 27 [.slice A0 l.length c0]]::[row bb BT [lv2,.slice AW ks.length cW,.int .i64 held,.bool false]]::X::XL2::XW::aS ks::R) w6:=hA7
 refine aH<|hK1 _ _ ?_
 clear hK1 K1
 apply wp_seq_k; intro K2 hK2
 refine aQ 9 [6,7,8,9,10,11] [0,1,2,3,4,5,6,7,8,9,10,11] (fun x=>Hq w0 ([row bb BT [lv2,.slice AW ks.length cW,.int .i64 held,.bool false]]::R) x) af af (Hq.drew (Hp.qp [[row b1 27 [.slice A0 l.length c0]],[row bb BT [lv2,.slice AW ks.length cW,.int .i64 held,.bool false]],X,XL2,XW,aS ks] R [1] hA7)) ?_
 have hA8:=Hl.drew hA7
 refine pR hF<|pX O O<|pX O O<|pX O O<|pW O O (fun _=>yf 1 O NP O dh O)<|pV O O (fun x hx=>aU O hx O 0 O O eP)<|pX O O fun a hF=>?_
 have hA9:Hp w0 (([]:Seg)::[row b1 27 [.slice A0 l.length c0]]::[row bb BT [lv2,.slice AW ks.length cW,.int .i64 held,.bool false]]::X::XL2::XW::aS ks::R) w6.drew:=Hp.nil hA8
 refine fG O O O (fun K hK=>cO hF O ae rfl hA9 0 O (Buf.nil 5 1) Nq vg rfl rfl (Rc.srcC (size:=1) hR0 (Hq.sub hA9.q (by simp)) Nq ae (by rw [Bh hl1]) (ww hl1)) (hzl) ae (fun cv Z2 w10 a hZ hF hA11=>hK _ _ (fun _=>?_) ?_))
 ·exact Hp.qp [Z2,[row b1 27 [.slice A0 l.length c0]],[row bb BT [lv2,.slice AW ks.length cW,.int .i64 held,.bool false]],X,XL2,XW,aS ks] R [2] hA11
 clear hK K
 replace hA11:Hp w0 (Z2::[row b1 27 [.slice A0 l.length c0]]::[row bb BT [lv2,.slice AW ks.length cW,.int .i64 held,.bool false]]::X::XL2::XW::aS ks::R) w10:=hA11
 rw [List.nil_append,Nat.zero_add] at hZ
 obtain ⟨A2,c2,rfl,_⟩:=hZ.slice
 refine fG O O O (fun K hK=>jL (u1:= .slice A2 l.length c2) hF O ae rfl hA11 O (rf _ _ _) (fun b12 w13 a hb12 hF hA14=>hK _ _ (fun _=>?_) ?_))
 ·exact Hp.qp [[row b12 27 [.slice A2 l.length c2]],Z2,[row b1 27 [.slice A0 l.length c0]],[row bb BT [lv2,.slice AW ks.length cW,.int .i64 held,.bool false]],X,XL2,XW,aS ks] R [3] hA14
 clear hK K
 refine fG O O O (fun K hK=>cO hF O ae rfl hA14 6 O hW NQ mP rfl rfl (Rc.srcC (W:=[.slice A2 l.length c2]) (m:=1) (size:=1) (R:=[row b12 27 [.slice A2 l.length c2]]::Z2::[row b1 27 [.slice A0 l.length c0]]::[row bb BT [lv2,.slice AW ks.length cW,.int .i64 held,.bool false]]::X::XL2::XW::aS ks::R) (Rc.ofRow (i:=0) (off:=0) rfl rfl) hA14.q NQ ae rfl (by simp [Value.oneCell'])) (hz4) ae (fun wv2 XW2 w15 a hW2 hF hA16=>hK _ _ (fun _=>?_) ?_))
 ·exact Hp.qp [[row b12 27 [.slice A2 l.length c2]],Z2,[row b1 27 [.slice A0 l.length c0]],[row bb BT [lv2,.slice AW ks.length cW,.int .i64 held,.bool false]],X,XL2,XW2,aS ks] R [3] hA16
 clear hK K
 replace hA16:Hp w0 ([row b12 27 [.slice A2 l.length c2]]::Z2::[row b1 27 [.slice A0 l.length c0]]::[row bb BT [lv2,.slice AW ks.length cW,.int .i64 held,.bool false]]::X::XL2::XW2::aS ks::R) w15:=hA16
 refine dG hF O O O O ae _ (aZ O O) (fun h=>absurd h ae) (fun a hF=>?_)
 refine dG hF O O O O ae _ (yf 1 O NP O dh O) (fun h=>absurd h ae) (fun a hF=>?_)
 refine fG O O O (fun K hK=>aX hF O O hA16 O O 3 O (by simp) hW2.one dh (fun w17 hA18=>hK _ _ (fun h=>absurd h ae) ?_))
 clear hK K
 replace hA18:Hp w0 ([row b12 27 [.slice A2 l.length c2]]::Z2::[row b1 27 [.slice A0 l.length c0]]::[row bb BT [lv2,wv2,.int .i64 held,.bool false]]::X::XL2::XW2::aS ks::R) w17:=hA18
 refine bI ?_
 refine hK2 _ _ ?_; clear  hK2 K2
 refine wS hF fun K3 hK3=>vX O<|vX O<|vX O<|vV O (yf 2 O NP O fB O)<|vV O (aU O hA18.q O 3 O O jk)<|vX O<|vV O (ig O Nq O)<|vV O (bT (r:=gu held c0) rfl rfl rfl rfl)<|vV O (bT (r:=gu (gu held c0) 1) rfl rfl rfl rfl)<|vX O<|vV O (yf 2 O NP O fB O) fun a hF=>?_
 refine ax O (fun K hK=>aX hF O O hA18 O O 3 O (by simp) rfl fB (fun w19 hA20=>hK _ _ ?_))
 clear hK K
 replace hA20:Hp w0 ([row b12 27 [.slice A2 l.length c2]]::Z2::[row b1 27 [.slice A0 l.length c0]]::[row bb BT [lv2,wv2,.int .i64 (gu (gu held c0) 1),.bool false]]::X::XL2::XW2::aS ks::R) w19:=hA20
 refine aH<|hK3 _ _ ?_
 clear hK3 K3
 apply wp_block
 have hA21:Hp w0 ([row bb BT [lv2,wv2,.int .i64 (gu (gu held c0) 1),.bool false]]::XL2::XW2::aS ks::X::Z2::R) w19:=hpS 8 [3,5,6,7,4,1] [0,2] hA20 rfl
 clear hzl hz4
 obtain ⟨kn,hkn⟩:∃ kn:KeptX (UInt8),kn=⟨.slice A0 l.length c0,l,X,.slice A2 l.length c2,Z2⟩:=⟨_,rfl⟩
 have hkk:KOK cB 5 1 kn:=by rw [hkn]; exact ⟨hl1,hlm,hX0,hZ⟩
 have hK2:∀ k∈ks++[kn],KOK cB 5 1 k:=fun k hk=>by
  rcases List.mem_append.1 hk with hk | hk
  ·exact hK k hk
  ·rw [List.mem_singleton] at hk; rw [hk]; exact hkk
 have hL3:Buf 27 1 XL2 lv2 (ks++[kn]).length ((ks++[kn]).map (·.v)):=by rw [List.length_append,List.map_append,hkn]; exact hL2
 have hW3:Buf 27 1 XW2 wv2 (ks++[kn]).length ((ks++[kn]).map (·.cv)):=by rw [List.length_append,List.map_append,hkn]; exact hW2
 have hA22:Hp w0 ([row bb BT [lv2,wv2,.int .i64 (gu (gu held c0) 1),.bool false]]::XL2::XW2::aS (ks++[kn])::([]:Seg)::R) w19:=hA21.cast (by rw [hkn]; simp [aS])
 refine bH (G:=Nat) (fun i a x=>∃ (qs:List (KeptX (UInt8))) (lv3:Value) (wv3:Value) (hd3:Int) (XL3:Seg) (XW3:Seg) (DD:Seg),(∀ r∈aS (ks++[kn]),r∈aS qs∨r∈DD)∧i=qs.length∧qs.getLast? = some kn∧qs.length≤4001∧(∀ k∈qs,KOK cB 5 1 k)∧Buf 27 1 XL3 lv3 qs.length (qs.map (·.v))∧Buf 27 1 XW3 wv3 qs.length (qs.map (·.cv))∧Fr 112 [(0,.pointer (some ⟨bb,0,none⟩))] a∧Hp w0 ([row bb BT [lv3,wv3,.int .i64 hd3,.bool false]]::XL3::XW3::aS qs::DD::R) x) (fun i=>i) (ks++[kn]).length (⟨ks++[kn],_,_,_,_,_,[],(fun r hr=> .inl hr),rfl,by simp,by rw [List.length_append]; simp; omega,hK2,hL3,hW3,hF.keep [0] rfl,hA22⟩) ?_
 clear hF
 rintro i a w24 ⟨qs,lv3,wv3,hd3,XL3,XW3,DD,hDD,hi,hlast,hq4,hKq,hLq,hWq,hF,hA23⟩
 obtain ⟨AL,cL,rfl,hcL⟩:=hLq.slice
 obtain ⟨AW,cW,rfl,hcW⟩:=hWq.slice
 by_cases h1:1<qs.length
 ·by_cases h2:1000000<hd3
  ·apply wp_seq_k; intro K4 hK4
   refine wS hF fun K5 hK5=>vX O<|vX O<|vV O (yf 0 O NP O dh O)<|vV O (aU O hA23.q O 0 O O eP)<|vV O (aT O NQ O O)<|vV O (aF O O O O (dY ag))<|vX O<|vG O (aV O O)<|vG O (aZ O O)<|vG O (yf 2 O NP O fB O)<|vG O (aU O hA23.q O 0 O O jk)<|vG O (aF O O O O (dY ag))<|vG O (aV O O)<|vS O<|vS O<|vS O<|vS O<|vS O<|vS O<|vG O (bP O O O)<|vV O (bP O O O)<|vE hK5 fun a hF=>?_
   clear hK5 K5
   refine gz hF O ?_
   obtain ⟨k0,kr,rfl⟩:∃ k0 kr,qs=k0::kr:=by
    cases qs with
    | nil=>exact absurd h1 (Nat.not_lt_zero _)
    | cons k0 kr=>exact ⟨k0,kr,rfl⟩
   have hlastr:kr.getLast? = some kn:=by
    cases kr with
    | nil=>simp at h1
    | cons k1 kr=>rw [List.getLast?_cons_cons] at hlast; exact hlast
   obtain ⟨gL,cL',oL,eL,hLt⟩:=Buf.tail (m:=kr.length) (W:=kr.map (·.v)) (u:=k0.v) hLq
   injection eL with eL _ eLc
   subst eL eLc
   obtain ⟨gW,cW',oW,eW,hWt⟩:=Buf.tail (m:=kr.length) (W:=kr.map (·.cv)) (u:=k0.cv) hWq
   injection eW with eW _ eWc
   subst eW eWc
   obtain ⟨hk1,hk2,hk3,hk4⟩:=hKq k0 (Nu ..)
   obtain ⟨B1,d1,ev1,_,_,hr1⟩:=hk3.rcIn (w0:=w0) (R:=[aS (k0::kr)]) (dL (Nu ..)).1 (Nu ..)
   obtain ⟨B2,d2,ev2,_,_,hr2⟩:=hk4.rcIn (w0:=w0) (R:=[aS (k0::kr)]) (dL (Nu ..)).2 (Nu ..)
   obtain ⟨_,_,f1,_,hc1⟩:=hLq.rc (w0:=w0) (R:=[XL3]) (Nu ..)
   injection f1 with f1 _ _
   subst f1
   obtain ⟨_,_,f2,_,hc2⟩:=hWq.rc (w0:=w0) (R:=[XW3]) (Nu ..)
   injection f2 with f2 _ _
   subst f2
   obtain ⟨_,_,f1,hcc1⟩:=hc1.ne (i:=0) (by simp)
   injection f1 with f1
   injection f1 with f1 f1'
   subst f1 f1'
   obtain ⟨_,_,f2,hcc2⟩:=hc2.ne (i:=0) (by simp)
   injection f2 with f2
   injection f2 with f2 f2'
   subst f2 f2'
   apply wp_skip
   refine hK4 _ _ ?_; clear  hK4 K4
   apply wp_block
   apply wp_seq_k; intro K6 hK6
   refine aQ 23 [18,23] [0,1,2,3,4,5,6,7,8,9,10,11,12,13,14,15,16,17,18,19,20,21,22,23] (fun x=>Hq w0 ([row bb BT [.slice (some ⟨gL,oL,none⟩) ((k0::kr).length) (cL'+1),.slice (some ⟨gW,oW,none⟩) ((k0::kr).length) (cW'+1),.int .i64 hd3,.bool false]]::XL3::XW3::aS (k0::kr)::R) x) af af (Hq.drew (Hp.qp [[row bb BT [.slice (some ⟨gL,oL,none⟩) ((k0::kr).length) (cL'+1),.slice (some ⟨gW,oW,none⟩) ((k0::kr).length) (cW'+1),.int .i64 hd3,.bool false]],XL3,XW3,aS (k0::kr),DD] R [0,1,2,3] hA23)) ?_
   have hA25:=Hl.drew hA23
   refine pR hF<|pX O O<|pX O O<|pX O O<|pW O O (fun _=>yf 3 O NP O gm O)<|pV O O (fun x hx=>aU O hx O 0 O O lK)<|pX O O<|pG O O (fun _=>aV O O)<|pG O O (fun _=>aZ O O)<|pG O O (fun _=>yf 0 O NP O dh O) fun a hF=>?_
   refine dD hF O O O O O O O ae _ (fun x hx=>aU O hx O 0 O O eP) (fun a hF=>?_)
   refine pR hF<|pG O O (fun _=>aY O NQ jS O O 0 O (by simp) (ad2 _ _ _)) fun a hF=>?_
   refine dD hF O O O O O O O ae _ (fun x hx=>bV (u:= .slice B1 k0.l.length d1) rfl (Hq.sub hx (fun x hx=>by rw [List.mem_singleton] at hx; subst hx; simp)) O hcc1 0 (by simp) rfl (show ((k0::kr).map (·.v))[0]? = _ from congrArg some ev1) jU) (fun a hF=>?_)
   refine pR hF<|pG O O (fun _=>aV O O)<|pG O O (fun _=>aZ O O)<|pG O O (fun _=>yf 1 O NP O dh O) fun a hF=>?_
   refine dD hF O O O O O O O ae _ (fun x hx=>aU O hx O 0 O O eP) (fun a hF=>?_)
   refine pR hF<|pG O O (fun _=>aY O NQ jS O O 0 O (by simp) (ad2 _ _ _)) fun a hF=>?_
   refine dD hF O O O O O O O ae _ (fun x hx=>bV (u:= .slice B2 k0.l.length d2) rfl (Hq.sub hx (fun x hx=>by rw [List.mem_singleton] at hx; subst hx; simp)) O hcc2 0 (by simp) rfl (show ((k0::kr).map (·.cv))[0]? = _ from congrArg some ev2) jU) (fun a hF=>?_)
   refine kW hF O O O O O O (fun K hK=>ay hF O ae vZ rfl rfl ?_)
   with_reducible refine (kS w0 _ ([row bb BT [.slice (some ⟨gL,oL,none⟩) ((k0::kr).length) (cL'+1),.slice (some ⟨gW,oW,none⟩) ((k0::kr).length) (cW'+1),.int .i64 hd3,.bool false]]::XL3::XW3::aS (k0::kr)::DD::R) B1 B2 k0.l k0.l d1 d2 (hr1.mono (by simp)) (hr2.mono (by simp)) hk1 hk1 hA25 hk2).mono ?_
   rintro e' w26 ⟨rfl,hA27⟩
   refine ⟨_,rfl,fun a hF=>hK _ _ (fun _=>?_) ?_⟩
   ·exact Hp.qp [[row bb BT [.slice (some ⟨gL,oL,none⟩) ((k0::kr).length) (cL'+1),.slice (some ⟨gW,oW,none⟩) ((k0::kr).length) (cW'+1),.int .i64 hd3,.bool false]],XL3,XW3,aS (k0::kr),DD] R [0,1,2,3] hA27
   clear hK K
   replace hA27:Hp w0 ([row bb BT [.slice (some ⟨gL,oL,none⟩) ((k0::kr).length) (cL'+1),.slice (some ⟨gW,oW,none⟩) ((k0::kr).length) (cW'+1),.int .i64 hd3,.bool false]]::XL3::XW3::aS (k0::kr)::DD::R) w26:=hA27
   rw [decide_eq_true rfl] at hF
   refine pR hF<|pG O O (fun _=>dm O O O)<|pW O O (fun _=>bP O O O)<|pX O O<|pW O O (fun _=>yf 3 O NP O gm O) fun a hF=>?_
   refine fG O O O (fun K hK=>aX hF O O hA27 O O 0 O (by simp) rfl gm (fun w28 hA29=>hK _ _ (fun h=>absurd h ae) ?_))
   clear hK K
   replace hA29:Hp w0 ([row bb BT [.slice (some ⟨gL,oL,none⟩) ((k0::kr).length) (cL'+1),.slice (some ⟨gW,oW,none⟩) ((k0::kr).length) (cW'+1),.int .i64 hd3,.bool false]]::XL3::XW3::aS (k0::kr)::DD::R) w28:=hA29
   refine bI ?_
   refine hK6 _ _ ?_; clear  hK6 K6
   apply wp_seq_k; intro K7 hK7
   refine aQ 16 [16] [0,1,2,3,4,5,6,7,8,9,10,11,12,13,14,15,16] _ af af (Hq.drew hA29.q) ?_
   have hA30:=Hl.drew hA29
   refine pR hF<|pX O O<|pX O O<|pX O O<|pW O O (fun _=>yf 2 O NP O fB O)<|pV O O (fun x hx=>aU O hx O 0 O O jk)<|pX O O<|pX O O<|pW O O (fun _=>yf 0 O NP O dh O)<|pV O O (fun x hx=>aU O hx O 0 O O eP)<|pW O O (fun _=>aY O NQ jS O O 0 O (by simp) (ad2 _ _ _))<|pV O O (fun x hx=>bV (u:= .slice B1 k0.l.length d1) rfl (Hq.sub hx (fun x hx=>by rw [List.mem_singleton] at hx; subst hx; simp)) O hcc1 0 (by simp) rfl (show ((k0::kr).map (·.v))[0]? = _ from congrArg some ev1) jU) fun a hF=>?_
   refine pR hF<|pW O O (fun _=>ig O Nq O)<|pW O O (fun _=>eu (r:=dA hd3 d1) rfl rfl rfl rfl)<|pW O O (fun _=>eu (r:=dA (dA hd3 d1) 1) rfl rfl rfl rfl)<|pX O O<|pW O O (fun _=>yf 2 O NP O fB O) fun a hF=>?_
   refine fG O O O (fun K hK=>aX hF O O hA30 O O 0 O (by simp) rfl fB (fun w31 hA32=>hK _ _ (fun h=>absurd h ae) ?_))
   clear hK K
   replace hA32:Hp w0 ([row bb BT [.slice (some ⟨gL,oL,none⟩) ((k0::kr).length) (cL'+1),.slice (some ⟨gW,oW,none⟩) ((k0::kr).length) (cW'+1),.int .i64 (dA (dA hd3 d1) 1),.bool false]]::XL3::XW3::aS (k0::kr)::DD::R) w31:=hA32
   refine bI ?_
   refine hK7 _ _ ?_; clear  hK7 K7
   refine wS hF fun K8 hK8=>vX O<|vX O<|vX O<|vV O (yf 0 O NP O dh O)<|vV O (aU O hA32.q O 0 O O eP)<|vV O (dW (v:= .slice (some ⟨gL,oL+1,none⟩) kr.length cL') rfl NQ jX rfl (.some (k:=1) rfl rfl) (.none _) (by simp) ag (by rw [show (k0::kr).length-1=kr.length from rfl,show cL'+1-1=cL' from rfl]; unfold sub; rw [if_neg (by simp at hcL; simp at h1; omega),Option.map_some,Addr.add_mid])) fun a hF=>?_
   refine vR hF<|vX O<|vV O (yf 0 O NP O dh O) fun a hF=>?_
   refine ax O (fun K hK=>aX hF O O hA32 O O 0 O (by simp) rfl dh (fun w33 hA34=>hK _ _ ?_))
   clear hK K
   replace hA34:Hp w0 ([row bb BT [.slice (some ⟨gL,oL+1,none⟩) kr.length cL',.slice (some ⟨gW,oW,none⟩) ((k0::kr).length) (cW'+1),.int .i64 (dA (dA hd3 d1) 1),.bool false]]::XL3::XW3::aS (k0::kr)::DD::R) w33:=hA34
   refine aH<|hK8 _ _ ?_
   clear hK8 K8
   refine wp_region_lit ?_
   refine vR hF<|vX O<|vX O<|vX O<|vV O (yf 1 O NP O dh O)<|vV O (aU O hA34.q O 0 O O eP)<|vV O (dW (v:= .slice (some ⟨gW,oW+1,none⟩) kr.length cW') rfl NQ jX rfl (.some (k:=1) rfl rfl) (.none _) (by simp) ag (by rw [show (k0::kr).length-1=kr.length from rfl,show cW'+1-1=cW' from rfl]; unfold sub; rw [if_neg (by simp at hcW; simp at h1; omega),Option.map_some,Addr.add_mid])) fun a hF=>?_
   refine vR hF<|vX O<|vV O (yf 1 O NP O dh O) fun a hF=>?_
   refine ax O (fun K hK=>aX hF O O hA34 O O 0 O (by simp) rfl dh (fun w35 hA36=>hK _ _ ?_))
   clear hK K
   replace hA36:Hp w0 ([row bb BT [.slice (some ⟨gL,oL+1,none⟩) kr.length cL',.slice (some ⟨gW,oW+1,none⟩) kr.length cW',.int .i64 (dA (dA hd3 d1) 1),.bool false]]::XL3::XW3::aS (k0::kr)::DD::R) w35:=hA36
   refine aH ?_
   have hA37:Hp w0 ([row bb BT [.slice (some ⟨gL,oL+1,none⟩) kr.length cL',.slice (some ⟨gW,oW+1,none⟩) kr.length cW',.int .i64 (dA (dA hd3 d1) 1),.bool false]]::XL3::XW3::aS kr::((k0.X++k0.Z)++DD)::R) w35:=Hl.perm hA36 (by
    simp only [List.flatten_cons,aS,List.flatMap_cons,List.append_assoc]
    refine List.Perm.append_left _ (List.Perm.append_left _ (List.Perm.append_left _ ?_))
    exact nK _ _ _ _ _)
   exact ⟨kr.length,by rw [hi]; exact Nat.lt_succ_self _,kr,_,_,_,XL3,XW3,((k0.X++k0.Z)++DD),(fun r hr=>by
    rcases hDD r hr with h | h
    ·unfold aS at h; rw [List.flatMap_cons] at h
     rcases List.mem_append.1 h with h | h
     ·exact .inr (Nr _ h)
     ·exact .inl h
    ·exact .inr (Ns _ h)),rfl,hlastr,by simp at hq4; omega,(fun k hk=>hKq k (Nw _ hk)),hLt,hWt,hF.keep [0] rfl,hA37⟩
  ·by_cases h3:4000<qs.length
   ·apply wp_seq_k; intro K9 hK9
    refine wS hF fun K10 hK10=>vX O<|vX O<|vV O (yf 0 O NP O dh O)<|vV O (aU O hA23.q O 0 O O eP)<|vV O (aT O NQ O O)<|vV O (aF O O O O (dY ag))<|vX O<|vG O (aV O O)<|vG O (aZ O O)<|vG O (yf 2 O NP O fB O)<|vG O (aU O hA23.q O 0 O O jk)<|vG O (aF O O O O (fE ag))<|vG O (aV O O)<|vG O (aV O O)<|vG O (aZ O O)<|vG O (yf 0 O NP O dh O)<|vG O (aU O hA23.q O 0 O O eP)<|vG O (aT O NQ O O)<|vG O (aF O O O O (dY ag))<|vG O (bP O O O)<|vV O (bP O O O)<|vE hK10 fun a hF=>?_
    clear hK10 K10
    refine gz hF O ?_
    obtain ⟨k0,kr,rfl⟩:∃ k0 kr,qs=k0::kr:=by
     cases qs with
     | nil=>exact absurd h1 (Nat.not_lt_zero _)
     | cons k0 kr=>exact ⟨k0,kr,rfl⟩
    have hlastr:kr.getLast? = some kn:=by
     cases kr with
     | nil=>simp at h1
     | cons k1 kr=>rw [List.getLast?_cons_cons] at hlast; exact hlast
    obtain ⟨gL,cL',oL,eL,hLt⟩:=Buf.tail (m:=kr.length) (W:=kr.map (·.v)) (u:=k0.v) hLq
    injection eL with eL _ eLc
    subst eL eLc
    obtain ⟨gW,cW',oW,eW,hWt⟩:=Buf.tail (m:=kr.length) (W:=kr.map (·.cv)) (u:=k0.cv) hWq
    injection eW with eW _ eWc
    subst eW eWc
    obtain ⟨hk1,hk2,hk3,hk4⟩:=hKq k0 (Nu ..)
    obtain ⟨B1,d1,ev1,_,_,hr1⟩:=hk3.rcIn (w0:=w0) (R:=[aS (k0::kr)]) (dL (Nu ..)).1 (Nu ..)
    obtain ⟨B2,d2,ev2,_,_,hr2⟩:=hk4.rcIn (w0:=w0) (R:=[aS (k0::kr)]) (dL (Nu ..)).2 (Nu ..)
    obtain ⟨_,_,f1,_,hc1⟩:=hLq.rc (w0:=w0) (R:=[XL3]) (Nu ..)
    injection f1 with f1 _ _
    subst f1
    obtain ⟨_,_,f2,_,hc2⟩:=hWq.rc (w0:=w0) (R:=[XW3]) (Nu ..)
    injection f2 with f2 _ _
    subst f2
    obtain ⟨_,_,f1,hcc1⟩:=hc1.ne (i:=0) (by simp)
    injection f1 with f1
    injection f1 with f1 f1'
    subst f1 f1'
    obtain ⟨_,_,f2,hcc2⟩:=hc2.ne (i:=0) (by simp)
    injection f2 with f2
    injection f2 with f2 f2'
    subst f2 f2'
    apply wp_skip
    refine hK9 _ _ ?_; clear  hK9 K9
    apply wp_block
    apply wp_seq_k; intro K11 hK11
    refine aQ 23 [18,23] [0,1,2,3,4,5,6,7,8,9,10,11,12,13,14,15,16,17,18,19,20,21,22,23] (fun x=>Hq w0 ([row bb BT [.slice (some ⟨gL,oL,none⟩) ((k0::kr).length) (cL'+1),.slice (some ⟨gW,oW,none⟩) ((k0::kr).length) (cW'+1),.int .i64 hd3,.bool false]]::XL3::XW3::aS (k0::kr)::R) x) af af (Hq.drew (Hp.qp [[row bb BT [.slice (some ⟨gL,oL,none⟩) ((k0::kr).length) (cL'+1),.slice (some ⟨gW,oW,none⟩) ((k0::kr).length) (cW'+1),.int .i64 hd3,.bool false]],XL3,XW3,aS (k0::kr),DD] R [0,1,2,3] hA23)) ?_
    have hA38:=Hl.drew hA23
    refine pR hF<|pX O O<|pX O O<|pX O O<|pW O O (fun _=>yf 3 O NP O gm O)<|pV O O (fun x hx=>aU O hx O 0 O O lK)<|pX O O<|pG O O (fun _=>aV O O)<|pG O O (fun _=>aZ O O)<|pG O O (fun _=>yf 0 O NP O dh O) fun a hF=>?_
    refine dD hF O O O O O O O ae _ (fun x hx=>aU O hx O 0 O O eP) (fun a hF=>?_)
    refine pR hF<|pG O O (fun _=>aY O NQ jS O O 0 O (by simp) (ad2 _ _ _)) fun a hF=>?_
    refine dD hF O O O O O O O ae _ (fun x hx=>bV (u:= .slice B1 k0.l.length d1) rfl (Hq.sub hx (fun x hx=>by rw [List.mem_singleton] at hx; subst hx; simp)) O hcc1 0 (by simp) rfl (show ((k0::kr).map (·.v))[0]? = _ from congrArg some ev1) jU) (fun a hF=>?_)
    refine pR hF<|pG O O (fun _=>aV O O)<|pG O O (fun _=>aZ O O)<|pG O O (fun _=>yf 1 O NP O dh O) fun a hF=>?_
    refine dD hF O O O O O O O ae _ (fun x hx=>aU O hx O 0 O O eP) (fun a hF=>?_)
    refine pR hF<|pG O O (fun _=>aY O NQ jS O O 0 O (by simp) (ad2 _ _ _)) fun a hF=>?_
    refine dD hF O O O O O O O ae _ (fun x hx=>bV (u:= .slice B2 k0.l.length d2) rfl (Hq.sub hx (fun x hx=>by rw [List.mem_singleton] at hx; subst hx; simp)) O hcc2 0 (by simp) rfl (show ((k0::kr).map (·.cv))[0]? = _ from congrArg some ev2) jU) (fun a hF=>?_)
    refine kW hF O O O O O O (fun K hK=>ay hF O ae vZ rfl rfl ?_)
    with_reducible refine (kS w0 _ ([row bb BT [.slice (some ⟨gL,oL,none⟩) ((k0::kr).length) (cL'+1),.slice (some ⟨gW,oW,none⟩) ((k0::kr).length) (cW'+1),.int .i64 hd3,.bool false]]::XL3::XW3::aS (k0::kr)::DD::R) B1 B2 k0.l k0.l d1 d2 (hr1.mono (by simp)) (hr2.mono (by simp)) hk1 hk1 hA38 hk2).mono ?_
    rintro e' w39 ⟨rfl,hA40⟩
    refine ⟨_,rfl,fun a hF=>hK _ _ (fun _=>?_) ?_⟩
    ·exact Hp.qp [[row bb BT [.slice (some ⟨gL,oL,none⟩) ((k0::kr).length) (cL'+1),.slice (some ⟨gW,oW,none⟩) ((k0::kr).length) (cW'+1),.int .i64 hd3,.bool false]],XL3,XW3,aS (k0::kr),DD] R [0,1,2,3] hA40
    clear hK K
    replace hA40:Hp w0 ([row bb BT [.slice (some ⟨gL,oL,none⟩) ((k0::kr).length) (cL'+1),.slice (some ⟨gW,oW,none⟩) ((k0::kr).length) (cW'+1),.int .i64 hd3,.bool false]]::XL3::XW3::aS (k0::kr)::DD::R) w39:=hA40
    rw [decide_eq_true rfl] at hF
    refine pR hF<|pG O O (fun _=>dm O O O)<|pW O O (fun _=>bP O O O)<|pX O O<|pW O O (fun _=>yf 3 O NP O gm O) fun a hF=>?_
    refine fG O O O (fun K hK=>aX hF O O hA40 O O 0 O (by simp) rfl gm (fun w41 hA42=>hK _ _ (fun h=>absurd h ae) ?_))
    clear hK K
    replace hA42:Hp w0 ([row bb BT [.slice (some ⟨gL,oL,none⟩) ((k0::kr).length) (cL'+1),.slice (some ⟨gW,oW,none⟩) ((k0::kr).length) (cW'+1),.int .i64 hd3,.bool false]]::XL3::XW3::aS (k0::kr)::DD::R) w41:=hA42
    refine bI ?_
    refine hK11 _ _ ?_; clear  hK11 K11
    apply wp_seq_k; intro K12 hK12
    refine aQ 16 [16] [0,1,2,3,4,5,6,7,8,9,10,11,12,13,14,15,16] _ af af (Hq.drew hA42.q) ?_
    have hA43:=Hl.drew hA42
    refine pR hF<|pX O O<|pX O O<|pX O O<|pW O O (fun _=>yf 2 O NP O fB O)<|pV O O (fun x hx=>aU O hx O 0 O O jk)<|pX O O<|pX O O<|pW O O (fun _=>yf 0 O NP O dh O)<|pV O O (fun x hx=>aU O hx O 0 O O eP)<|pW O O (fun _=>aY O NQ jS O O 0 O (by simp) (ad2 _ _ _))<|pV O O (fun x hx=>bV (u:= .slice B1 k0.l.length d1) rfl (Hq.sub hx (fun x hx=>by rw [List.mem_singleton] at hx; subst hx; simp)) O hcc1 0 (by simp) rfl (show ((k0::kr).map (·.v))[0]? = _ from congrArg some ev1) jU) fun a hF=>?_
    refine pR hF<|pW O O (fun _=>ig O Nq O)<|pW O O (fun _=>eu (r:=dA hd3 d1) rfl rfl rfl rfl)<|pW O O (fun _=>eu (r:=dA (dA hd3 d1) 1) rfl rfl rfl rfl)<|pX O O<|pW O O (fun _=>yf 2 O NP O fB O) fun a hF=>?_
    refine fG O O O (fun K hK=>aX hF O O hA43 O O 0 O (by simp) rfl fB (fun w44 hA45=>hK _ _ (fun h=>absurd h ae) ?_))
    clear hK K
    replace hA45:Hp w0 ([row bb BT [.slice (some ⟨gL,oL,none⟩) ((k0::kr).length) (cL'+1),.slice (some ⟨gW,oW,none⟩) ((k0::kr).length) (cW'+1),.int .i64 (dA (dA hd3 d1) 1),.bool false]]::XL3::XW3::aS (k0::kr)::DD::R) w44:=hA45
    refine bI ?_
    refine hK12 _ _ ?_; clear  hK12 K12
    refine wS hF fun K13 hK13=>vX O<|vX O<|vX O<|vV O (yf 0 O NP O dh O)<|vV O (aU O hA45.q O 0 O O eP)<|vV O (dW (v:= .slice (some ⟨gL,oL+1,none⟩) kr.length cL') rfl NQ jX rfl (.some (k:=1) rfl rfl) (.none _) (by simp) ag (by rw [show (k0::kr).length-1=kr.length from rfl,show cL'+1-1=cL' from rfl]; unfold sub; rw [if_neg (by simp at hcL; simp at h1; omega),Option.map_some,Addr.add_mid])) fun a hF=>?_
    refine vR hF<|vX O<|vV O (yf 0 O NP O dh O) fun a hF=>?_
    refine ax O (fun K hK=>aX hF O O hA45 O O 0 O (by simp) rfl dh (fun w46 hA47=>hK _ _ ?_))
    clear hK K
    replace hA47:Hp w0 ([row bb BT [.slice (some ⟨gL,oL+1,none⟩) kr.length cL',.slice (some ⟨gW,oW,none⟩) ((k0::kr).length) (cW'+1),.int .i64 (dA (dA hd3 d1) 1),.bool false]]::XL3::XW3::aS (k0::kr)::DD::R) w46:=hA47
    refine aH<|hK13 _ _ ?_
    clear hK13 K13
    refine wp_region_lit ?_
    refine vR hF<|vX O<|vX O<|vX O<|vV O (yf 1 O NP O dh O)<|vV O (aU O hA47.q O 0 O O eP)<|vV O (dW (v:= .slice (some ⟨gW,oW+1,none⟩) kr.length cW') rfl NQ jX rfl (.some (k:=1) rfl rfl) (.none _) (by simp) ag (by rw [show (k0::kr).length-1=kr.length from rfl,show cW'+1-1=cW' from rfl]; unfold sub; rw [if_neg (by simp at hcW; simp at h1; omega),Option.map_some,Addr.add_mid])) fun a hF=>?_
    refine vR hF<|vX O<|vV O (yf 1 O NP O dh O) fun a hF=>?_
    refine ax O (fun K hK=>aX hF O O hA47 O O 0 O (by simp) rfl dh (fun w48 hA49=>hK _ _ ?_))
    clear hK K
    replace hA49:Hp w0 ([row bb BT [.slice (some ⟨gL,oL+1,none⟩) kr.length cL',.slice (some ⟨gW,oW+1,none⟩) kr.length cW',.int .i64 (dA (dA hd3 d1) 1),.bool false]]::XL3::XW3::aS (k0::kr)::DD::R) w48:=hA49
    refine aH ?_
    have hA50:Hp w0 ([row bb BT [.slice (some ⟨gL,oL+1,none⟩) kr.length cL',.slice (some ⟨gW,oW+1,none⟩) kr.length cW',.int .i64 (dA (dA hd3 d1) 1),.bool false]]::XL3::XW3::aS kr::((k0.X++k0.Z)++DD)::R) w48:=Hl.perm hA49 (by
     simp only [List.flatten_cons,aS,List.flatMap_cons,List.append_assoc]
     refine List.Perm.append_left _ (List.Perm.append_left _ (List.Perm.append_left _ ?_))
     exact nK _ _ _ _ _)
    exact ⟨kr.length,by rw [hi]; exact Nat.lt_succ_self _,kr,_,_,_,XL3,XW3,((k0.X++k0.Z)++DD),(fun r hr=>by
     rcases hDD r hr with h | h
     ·unfold aS at h; rw [List.flatMap_cons] at h
      rcases List.mem_append.1 h with h | h
      ·exact .inr (Nr _ h)
      ·exact .inl h
     ·exact .inr (Ns _ h)),rfl,hlastr,by simp at hq4; omega,(fun k hk=>hKq k (Nw _ hk)),hLt,hWt,hF.keep [0] rfl,hA50⟩
   ·apply wp_seq_k; intro K14 hK14
    refine wS hF fun K15 hK15=>vX O<|vX O<|vV O (yf 0 O NP O dh O)<|vV O (aU O hA23.q O 0 O O eP)<|vV O (aT O NQ O O)<|vV O (aF O O O O (dY ag))<|vX O<|vG O (aV O O)<|vG O (aZ O O)<|vG O (yf 2 O NP O fB O)<|vG O (aU O hA23.q O 0 O O jk)<|vG O (aF O O O O (fE ag))<|vG O (aV O O)<|vG O (aV O O)<|vG O (aZ O O)<|vG O (yf 0 O NP O dh O)<|vG O (aU O hA23.q O 0 O O eP)<|vG O (aT O NQ O O)<|vG O (aF O O O O (fE ag))<|vG O (bP O O O)<|vV O (bP O O O)<|vE hK15 fun a hF=>?_
    clear hK15 K15
    refine dn hF O ?_
    apply wp_exit
    simp only [Exit.then,Exit.inBlock,↓reduceIte]
    refine gJ hF Tryz.results30 ?_
    refine ⟨qs,.slice AL qs.length cL,.slice AW qs.length cW,hd3,XL3++(XW3++aS qs),DD,rfl,⟨ ag,XL3,XW3,hLq,hWq,hKq,rfl⟩,fun r hr=>?_,fun r hr=>?_,hA23.cast (by simp)⟩
    rotate_left
    ·rcases hDD r (by unfold aS; rw [List.flatMap_append]; exact Nr _ hr) with h | h
     ·exact .inl h
     ·exact .inr h
    refine (dL (List.mem_of_getLast? hlast)).1 ?_
    rw [hkn]; exact hr
 ·apply wp_seq_k; intro K16 hK16
  refine wS hF fun K17 hK17=>vX O<|vX O<|vV O (yf 0 O NP O dh O)<|vV O (aU O hA23.q O 0 O O eP)<|vV O (aT O NQ O O)<|vV O (aF O O O O (fE ag))<|vX O<|vS O<|vS O<|vS O<|vS O<|vS O<|vS O fun a hF=>?_
  refine bD hF O O O O O ae (fun a hF=>?_)
  refine bD hF O O O O O ae (fun a hF=>?_)
  refine bD hF O O O O O ae (fun a hF=>?_)
  refine bD hF O O O O O ae (fun a hF=>?_)
  refine bD hF O O O O O ae (fun a hF=>?_)
  refine bD hF O O O O O ae (fun a hF=>?_)
  refine vR hF<|vS O<|vV O (bP O O O)<|vE hK17 fun a hF=>?_
  clear hK17 K17
  refine dn hF O ?_
  apply wp_exit
  simp only [Exit.then,Exit.inBlock,↓reduceIte]
  refine gJ hF Tryz.results30 ?_
  refine ⟨qs,.slice AL qs.length cL,.slice AW qs.length cW,hd3,XL3++(XW3++aS qs),DD,rfl,⟨ ag,XL3,XW3,hLq,hWq,hKq,rfl⟩,fun r hr=>?_,fun r hr=>?_,hA23.cast (by simp)⟩
  rotate_left
  ·rcases hDD r (by unfold aS; rw [List.flatMap_append]; exact Nr _ hr) with h | h
   ·exact .inl h
   ·exact .inr h
  refine (dL (List.mem_of_getLast? hlast)).1 ?_
  rw [hkn]; exact hr
theorem nM (A:Option Addr) (n c:Nat) (w:World):(Instr.buildSlice 68 1 #[(0,.slice A n c)]).run Tryz.prog w= .ok (.slice (some ⟨w.heap.size,0,none⟩) 1 1) (w.alloc (.cells #[.slice A n c] 23)):=af
theorem lm:gV Tryz.prog 23 1 24:=iC (z:= .slice none 0 0) af af
theorem qZ:gV Tryz.prog 9 1 16:=iC (z:=aj []) af af
theorem jb:(Tryz.prog.info? 23).map (·.size)=some 1:=af
theorem iy {lv wv:Value} {BT:TypeId} {held:Int} (w0 w:World) (R:List Seg) (bb:Nat) (ks:List (KeptX (List UInt8))) (Y X:Seg) (lv0:Value) (l:List (List UInt8)) (hb:BookV cS 23 9 1 ks lv wv Y) (hX:Buf 9 1 X lv0 l.length (cel cS l)) (hl1:∀ x∈l,(cS x).length=1) (hlm:l.length≤9223372036854775807) (hl:(l.length+l.length/4+192)*16≤281474976710656) (hA:Hp w0 (X::[row bb BT [lv,wv,.int .i64 held,.bool false]]::Y::R) w):Calls Tryz.prog 36 #[.pointer (some ⟨bb,0,none⟩),lv0] w fun e w'=>∃ ks' lv' wv' held' Y' DD,e= .returned (.tuple #[])∧BookV cS 23 9 1 ks' lv' wv' Y'∧X⊆aS ks'∧(∀ r∈aS ks,r∈aS ks'∨r∈DD)∧Hp w0 ([row bb BT [lv',wv',.int .i64 held',.bool false]]::Y'::DD::R) w':=by
 have hzl:(0+l.length+(0+l.length)/4+192)*16≤281474976710656:=by rw [Nat.zero_add]; exact hl
 clear hl
 obtain ⟨hn4,XL,XW,hL,hW,hK,rfl⟩:=hb
 have hz4:(ks.length+1+(ks.length+1)/4+192)*24≤281474976710656:=by clear hlm hzl hl1 hX hA hK hL hW; omega
 obtain ⟨A0,c0,rfl,hc0,hc0m⟩:=hX.cap
 have hX0:=hX
 have h1:Hp w0 (X::[row bb BT [lv,wv,.int .i64 held,.bool false]]::XL::XW::aS ks::R) w:=hA.cast (by simp)
 replace hA:Hp w0 ([row bb BT [lv,wv,.int .i64 held,.bool false]]::X::XL::XW::aS ks::R) w:=Hp.ord [X,[row bb BT [lv,wv,.int .i64 held,.bool false]]] (XL::XW::aS ks::R) [1,0] h1 rfl
 clear h1
 obtain ⟨AL,cL,rfl,hcL⟩:=hL.slice
 obtain ⟨AW,cW,rfl,hcW⟩:=hW.slice
 obtain ⟨_,_,e0,_,hR0⟩:=hX.rc (w0:=w0) (R:=[X]) (Nu ..)
 injection e0 with e0 _ _
 subst e0
 refine aP Tryz.func36 O Tryz.ntmps36 ai (fun a hF=>?_)
 refine wS hF fun K1 hK1=>vX O<|vX O<|vX O<|vV O (yf 0 O NR O df O)<|vV O (aU O hA.q O 0 O O eH)<|vX O fun a hF=>?_
 refine ax O (fun K hK=>jL (u1:= .slice A0 l.length c0) hF O ae rfl hA O (nM _ _ _) (fun b1 w2 a hb1 hF hA3=>hK _ _ ?_))
 clear hK K
 refine ax O (fun K hK=>cO hF O ae rfl hA3 3 O hL NS lm rfl rfl (Rc.srcC (W:=[.slice A0 l.length c0]) (m:=1) (size:=1) (R:=[row b1 23 [.slice A0 l.length c0]]::[row bb BT [.slice AL ks.length cL,.slice AW ks.length cW,.int .i64 held,.bool false]]::X::XL::XW::aS ks::R) (Rc.ofRow (i:=0) (off:=0) rfl rfl) hA3.q NS ae rfl (by simp [Value.oneCell'])) (hz4) ae (fun lv2 XL2 w4 a hL2 hF hA5=>hK _ _ ?_))
 clear hK K
 refine vR hF<|vX O<|vV O (yf 0 O NR O df O) fun a hF=>?_
 refine ax O (fun K hK=>aX hF O O hA5 O O 1 O (by simp) hL2.one df (fun w6 hA7=>hK _ _ ?_))
 clear hK K
 replace hA7:Hp w0 ([row b1 23 [.slice A0 l.length c0]]::[row bb BT [lv2,.slice AW ks.length cW,.int .i64 held,.bool false]]::X::XL2::XW::aS ks::R) w6:=hA7
 refine aH<|hK1 _ _ ?_
 clear hK1 K1
 apply wp_seq_k; intro K2 hK2
 refine aQ 9 [6,7,8,9,10,11] [0,1,2,3,4,5,6,7,8,9,10,11] (fun x=>Hq w0 ([row bb BT [lv2,.slice AW ks.length cW,.int .i64 held,.bool false]]::R) x) af af (Hq.drew (Hp.qp [[row b1 23 [.slice A0 l.length c0]],[row bb BT [lv2,.slice AW ks.length cW,.int .i64 held,.bool false]],X,XL2,XW,aS ks] R [1] hA7)) ?_
 have hA8:=Hl.drew hA7
 refine pR hF<|pX O O<|pX O O<|pX O O<|pW O O (fun _=>yf 1 O NR O df O)<|pV O O (fun x hx=>aU O hx O 0 O O eH)<|pX O O fun a hF=>?_
 have hA9:Hp w0 (([]:Seg)::[row b1 23 [.slice A0 l.length c0]]::[row bb BT [lv2,.slice AW ks.length cW,.int .i64 held,.bool false]]::X::XL2::XW::aS ks::R) w6.drew:=Hp.nil hA8
 refine fG O O O (fun K hK=>cO hF O ae rfl hA9 0 O (Buf.nil 9 1) Nk qZ rfl rfl (Rc.srcC (size:=1) hR0 (Hq.sub hA9.q (by simp)) Nk ae (by rw [Bh hl1]) (rX hl1)) (hzl) ae (fun cv Z2 w10 a hZ hF hA11=>hK _ _ (fun _=>?_) ?_))
 ·exact Hp.qp [Z2,[row b1 23 [.slice A0 l.length c0]],[row bb BT [lv2,.slice AW ks.length cW,.int .i64 held,.bool false]],X,XL2,XW,aS ks] R [2] hA11
 clear hK K
 replace hA11:Hp w0 (Z2::[row b1 23 [.slice A0 l.length c0]]::[row bb BT [lv2,.slice AW ks.length cW,.int .i64 held,.bool false]]::X::XL2::XW::aS ks::R) w10:=hA11
 rw [List.nil_append,Nat.zero_add] at hZ
 obtain ⟨A2,c2,rfl,_⟩:=hZ.slice
 refine fG O O O (fun K hK=>jL (u1:= .slice A2 l.length c2) hF O ae rfl hA11 O (nM _ _ _) (fun b12 w13 a hb12 hF hA14=>hK _ _ (fun _=>?_) ?_))
 ·exact Hp.qp [[row b12 23 [.slice A2 l.length c2]],Z2,[row b1 23 [.slice A0 l.length c0]],[row bb BT [lv2,.slice AW ks.length cW,.int .i64 held,.bool false]],X,XL2,XW,aS ks] R [3] hA14
 clear hK K
 refine fG O O O (fun K hK=>cO hF O ae rfl hA14 6 O hW NS lm rfl rfl (Rc.srcC (W:=[.slice A2 l.length c2]) (m:=1) (size:=1) (R:=[row b12 23 [.slice A2 l.length c2]]::Z2::[row b1 23 [.slice A0 l.length c0]]::[row bb BT [lv2,.slice AW ks.length cW,.int .i64 held,.bool false]]::X::XL2::XW::aS ks::R) (Rc.ofRow (i:=0) (off:=0) rfl rfl) hA14.q NS ae rfl (by simp [Value.oneCell'])) (hz4) ae (fun wv2 XW2 w15 a hW2 hF hA16=>hK _ _ (fun _=>?_) ?_))
 ·exact Hp.qp [[row b12 23 [.slice A2 l.length c2]],Z2,[row b1 23 [.slice A0 l.length c0]],[row bb BT [lv2,.slice AW ks.length cW,.int .i64 held,.bool false]],X,XL2,XW2,aS ks] R [3] hA16
 clear hK K
 replace hA16:Hp w0 ([row b12 23 [.slice A2 l.length c2]]::Z2::[row b1 23 [.slice A0 l.length c0]]::[row bb BT [lv2,.slice AW ks.length cW,.int .i64 held,.bool false]]::X::XL2::XW2::aS ks::R) w15:=hA16
 refine dG hF O O O O ae _ (aZ O O) (fun h=>absurd h ae) (fun a hF=>?_)
 refine dG hF O O O O ae _ (yf 1 O NR O df O) (fun h=>absurd h ae) (fun a hF=>?_)
 refine fG O O O (fun K hK=>aX hF O O hA16 O O 3 O (by simp) hW2.one df (fun w17 hA18=>hK _ _ (fun h=>absurd h ae) ?_))
 clear hK K
 replace hA18:Hp w0 ([row b12 23 [.slice A2 l.length c2]]::Z2::[row b1 23 [.slice A0 l.length c0]]::[row bb BT [lv2,wv2,.int .i64 held,.bool false]]::X::XL2::XW2::aS ks::R) w17:=hA18
 refine bI ?_
 refine hK2 _ _ ?_; clear  hK2 K2
 refine wS hF fun K3 hK3=>vX O<|vX O<|vX O<|vV O (yf 2 O NR O fB O)<|vV O (aU O hA18.q O 3 O O jk)<|vX O<|vV O (ig O Nk O)<|vV O (bT (r:=gu held c0) rfl rfl rfl rfl)<|vV O (bT (r:=gu (gu held c0) 1) rfl rfl rfl rfl)<|vX O<|vV O (yf 2 O NR O fB O) fun a hF=>?_
 refine ax O (fun K hK=>aX hF O O hA18 O O 3 O (by simp) rfl fB (fun w19 hA20=>hK _ _ ?_))
 clear hK K
 replace hA20:Hp w0 ([row b12 23 [.slice A2 l.length c2]]::Z2::[row b1 23 [.slice A0 l.length c0]]::[row bb BT [lv2,wv2,.int .i64 (gu (gu held c0) 1),.bool false]]::X::XL2::XW2::aS ks::R) w19:=hA20
 refine aH<|hK3 _ _ ?_
 clear hK3 K3
 apply wp_block
 have hA21:Hp w0 ([row bb BT [lv2,wv2,.int .i64 (gu (gu held c0) 1),.bool false]]::XL2::XW2::aS ks::X::Z2::R) w19:=hpS 8 [3,5,6,7,4,1] [0,2] hA20 rfl
 clear hzl hz4
 obtain ⟨kn,hkn⟩:∃ kn:KeptX (List UInt8),kn=⟨.slice A0 l.length c0,l,X,.slice A2 l.length c2,Z2⟩:=⟨_,rfl⟩
 have hkk:KOK cS 9 1 kn:=by rw [hkn]; exact ⟨hl1,hlm,hX0,hZ⟩
 have hK2:∀ k∈ks++[kn],KOK cS 9 1 k:=fun k hk=>by
  rcases List.mem_append.1 hk with hk | hk
  ·exact hK k hk
  ·rw [List.mem_singleton] at hk; rw [hk]; exact hkk
 have hL3:Buf 23 1 XL2 lv2 (ks++[kn]).length ((ks++[kn]).map (·.v)):=by rw [List.length_append,List.map_append,hkn]; exact hL2
 have hW3:Buf 23 1 XW2 wv2 (ks++[kn]).length ((ks++[kn]).map (·.cv)):=by rw [List.length_append,List.map_append,hkn]; exact hW2
 have hA22:Hp w0 ([row bb BT [lv2,wv2,.int .i64 (gu (gu held c0) 1),.bool false]]::XL2::XW2::aS (ks++[kn])::([]:Seg)::R) w19:=hA21.cast (by rw [hkn]; simp [aS])
 refine bH (G:=Nat) (fun i a x=>∃ (qs:List (KeptX (List UInt8))) (lv3:Value) (wv3:Value) (hd3:Int) (XL3:Seg) (XW3:Seg) (DD:Seg),(∀ r∈aS (ks++[kn]),r∈aS qs∨r∈DD)∧i=qs.length∧qs.getLast? = some kn∧qs.length≤4001∧(∀ k∈qs,KOK cS 9 1 k)∧Buf 23 1 XL3 lv3 qs.length (qs.map (·.v))∧Buf 23 1 XW3 wv3 qs.length (qs.map (·.cv))∧Fr 112 [(0,.pointer (some ⟨bb,0,none⟩))] a∧Hp w0 ([row bb BT [lv3,wv3,.int .i64 hd3,.bool false]]::XL3::XW3::aS qs::DD::R) x) (fun i=>i) (ks++[kn]).length (⟨ks++[kn],_,_,_,_,_,[],(fun r hr=> .inl hr),rfl,by simp,by rw [List.length_append]; simp; omega,hK2,hL3,hW3,hF.keep [0] rfl,hA22⟩) ?_
 clear hF
 rintro i a w24 ⟨qs,lv3,wv3,hd3,XL3,XW3,DD,hDD,hi,hlast,hq4,hKq,hLq,hWq,hF,hA23⟩
 obtain ⟨AL,cL,rfl,hcL⟩:=hLq.slice
 obtain ⟨AW,cW,rfl,hcW⟩:=hWq.slice
 by_cases h1:1<qs.length
 ·by_cases h2:1000000<hd3
  ·apply wp_seq_k; intro K4 hK4
   refine wS hF fun K5 hK5=>vX O<|vX O<|vV O (yf 0 O NR O df O)<|vV O (aU O hA23.q O 0 O O eH)<|vV O (aT O NS O O)<|vV O (aF O O O O (dY ag))<|vX O<|vG O (aV O O)<|vG O (aZ O O)<|vG O (yf 2 O NR O fB O)<|vG O (aU O hA23.q O 0 O O jk)<|vG O (aF O O O O (dY ag))<|vG O (aV O O)<|vS O<|vS O<|vS O<|vS O<|vS O<|vS O<|vG O (bP O O O)<|vV O (bP O O O)<|vE hK5 fun a hF=>?_
   clear hK5 K5
   refine gz hF O ?_
   obtain ⟨k0,kr,rfl⟩:∃ k0 kr,qs=k0::kr:=by
    cases qs with
    | nil=>exact absurd h1 (Nat.not_lt_zero _)
    | cons k0 kr=>exact ⟨k0,kr,rfl⟩
   have hlastr:kr.getLast? = some kn:=by
    cases kr with
    | nil=>simp at h1
    | cons k1 kr=>rw [List.getLast?_cons_cons] at hlast; exact hlast
   obtain ⟨gL,cL',oL,eL,hLt⟩:=Buf.tail (m:=kr.length) (W:=kr.map (·.v)) (u:=k0.v) hLq
   injection eL with eL _ eLc
   subst eL eLc
   obtain ⟨gW,cW',oW,eW,hWt⟩:=Buf.tail (m:=kr.length) (W:=kr.map (·.cv)) (u:=k0.cv) hWq
   injection eW with eW _ eWc
   subst eW eWc
   obtain ⟨hk1,hk2,hk3,hk4⟩:=hKq k0 (Nu ..)
   obtain ⟨B1,d1,ev1,_,_,hr1⟩:=hk3.rcIn (w0:=w0) (R:=[aS (k0::kr)]) (dL (Nu ..)).1 (Nu ..)
   obtain ⟨B2,d2,ev2,_,_,hr2⟩:=hk4.rcIn (w0:=w0) (R:=[aS (k0::kr)]) (dL (Nu ..)).2 (Nu ..)
   obtain ⟨_,_,f1,_,hc1⟩:=hLq.rc (w0:=w0) (R:=[XL3]) (Nu ..)
   injection f1 with f1 _ _
   subst f1
   obtain ⟨_,_,f2,_,hc2⟩:=hWq.rc (w0:=w0) (R:=[XW3]) (Nu ..)
   injection f2 with f2 _ _
   subst f2
   obtain ⟨_,_,f1,hcc1⟩:=hc1.ne (i:=0) (by simp)
   injection f1 with f1
   injection f1 with f1 f1'
   subst f1 f1'
   obtain ⟨_,_,f2,hcc2⟩:=hc2.ne (i:=0) (by simp)
   injection f2 with f2
   injection f2 with f2 f2'
   subst f2 f2'
   apply wp_skip
   refine hK4 _ _ ?_; clear  hK4 K4
   apply wp_block
   apply wp_seq_k; intro K6 hK6
   refine aQ 23 [18,23] [0,1,2,3,4,5,6,7,8,9,10,11,12,13,14,15,16,17,18,19,20,21,22,23] (fun x=>Hq w0 ([row bb BT [.slice (some ⟨gL,oL,none⟩) ((k0::kr).length) (cL'+1),.slice (some ⟨gW,oW,none⟩) ((k0::kr).length) (cW'+1),.int .i64 hd3,.bool false]]::XL3::XW3::aS (k0::kr)::R) x) af af (Hq.drew (Hp.qp [[row bb BT [.slice (some ⟨gL,oL,none⟩) ((k0::kr).length) (cL'+1),.slice (some ⟨gW,oW,none⟩) ((k0::kr).length) (cW'+1),.int .i64 hd3,.bool false]],XL3,XW3,aS (k0::kr),DD] R [0,1,2,3] hA23)) ?_
   have hA25:=Hl.drew hA23
   refine pR hF<|pX O O<|pX O O<|pX O O<|pW O O (fun _=>yf 3 O NR O gm O)<|pV O O (fun x hx=>aU O hx O 0 O O lK)<|pX O O<|pG O O (fun _=>aV O O)<|pG O O (fun _=>aZ O O)<|pG O O (fun _=>yf 0 O NR O df O) fun a hF=>?_
   refine dD hF O O O O O O O ae _ (fun x hx=>aU O hx O 0 O O eH) (fun a hF=>?_)
   refine pR hF<|pG O O (fun _=>aY O NS jT O O 0 O (by simp) (ad2 _ _ _)) fun a hF=>?_
   refine dD hF O O O O O O O ae _ (fun x hx=>bV (u:= .slice B1 k0.l.length d1) rfl (Hq.sub hx (fun x hx=>by rw [List.mem_singleton] at hx; subst hx; simp)) O hcc1 0 (by simp) rfl (show ((k0::kr).map (·.v))[0]? = _ from congrArg some ev1) jV) (fun a hF=>?_)
   refine pR hF<|pG O O (fun _=>aV O O)<|pG O O (fun _=>aZ O O)<|pG O O (fun _=>yf 1 O NR O df O) fun a hF=>?_
   refine dD hF O O O O O O O ae _ (fun x hx=>aU O hx O 0 O O eH) (fun a hF=>?_)
   refine pR hF<|pG O O (fun _=>aY O NS jT O O 0 O (by simp) (ad2 _ _ _)) fun a hF=>?_
   refine dD hF O O O O O O O ae _ (fun x hx=>bV (u:= .slice B2 k0.l.length d2) rfl (Hq.sub hx (fun x hx=>by rw [List.mem_singleton] at hx; subst hx; simp)) O hcc2 0 (by simp) rfl (show ((k0::kr).map (·.cv))[0]? = _ from congrArg some ev2) jV) (fun a hF=>?_)
   refine kW hF O O O O O O (fun K hK=>ay hF O ae vW rfl rfl ?_)
   with_reducible refine (jJ w0 _ ([row bb BT [.slice (some ⟨gL,oL,none⟩) ((k0::kr).length) (cL'+1),.slice (some ⟨gW,oW,none⟩) ((k0::kr).length) (cW'+1),.int .i64 hd3,.bool false]]::XL3::XW3::aS (k0::kr)::DD::R) B1 B2 k0.l k0.l d1 d2 (hr1.mono (by simp)) (hr2.mono (by simp)) hk1 hk1 hA25 hk2).mono ?_
   rintro e' w26 ⟨rfl,hA27⟩
   refine ⟨_,rfl,fun a hF=>hK _ _ (fun _=>?_) ?_⟩
   ·exact Hp.qp [[row bb BT [.slice (some ⟨gL,oL,none⟩) ((k0::kr).length) (cL'+1),.slice (some ⟨gW,oW,none⟩) ((k0::kr).length) (cW'+1),.int .i64 hd3,.bool false]],XL3,XW3,aS (k0::kr),DD] R [0,1,2,3] hA27
   clear hK K
   replace hA27:Hp w0 ([row bb BT [.slice (some ⟨gL,oL,none⟩) ((k0::kr).length) (cL'+1),.slice (some ⟨gW,oW,none⟩) ((k0::kr).length) (cW'+1),.int .i64 hd3,.bool false]]::XL3::XW3::aS (k0::kr)::DD::R) w26:=hA27
   rw [decide_eq_true rfl] at hF
   refine pR hF<|pG O O (fun _=>dm O O O)<|pW O O (fun _=>bP O O O)<|pX O O<|pW O O (fun _=>yf 3 O NR O gm O) fun a hF=>?_
   refine fG O O O (fun K hK=>aX hF O O hA27 O O 0 O (by simp) rfl gm (fun w28 hA29=>hK _ _ (fun h=>absurd h ae) ?_))
   clear hK K
   replace hA29:Hp w0 ([row bb BT [.slice (some ⟨gL,oL,none⟩) ((k0::kr).length) (cL'+1),.slice (some ⟨gW,oW,none⟩) ((k0::kr).length) (cW'+1),.int .i64 hd3,.bool false]]::XL3::XW3::aS (k0::kr)::DD::R) w28:=hA29
   refine bI ?_
   refine hK6 _ _ ?_; clear  hK6 K6
   apply wp_seq_k; intro K7 hK7
   refine aQ 16 [16] [0,1,2,3,4,5,6,7,8,9,10,11,12,13,14,15,16] _ af af (Hq.drew hA29.q) ?_
   have hA30:=Hl.drew hA29
   refine pR hF<|pX O O<|pX O O<|pX O O<|pW O O (fun _=>yf 2 O NR O fB O)<|pV O O (fun x hx=>aU O hx O 0 O O jk)<|pX O O<|pX O O<|pW O O (fun _=>yf 0 O NR O df O)<|pV O O (fun x hx=>aU O hx O 0 O O eH)<|pW O O (fun _=>aY O NS jT O O 0 O (by simp) (ad2 _ _ _))<|pV O O (fun x hx=>bV (u:= .slice B1 k0.l.length d1) rfl (Hq.sub hx (fun x hx=>by rw [List.mem_singleton] at hx; subst hx; simp)) O hcc1 0 (by simp) rfl (show ((k0::kr).map (·.v))[0]? = _ from congrArg some ev1) jV) fun a hF=>?_
   refine pR hF<|pW O O (fun _=>ig O Nk O)<|pW O O (fun _=>eu (r:=dA hd3 d1) rfl rfl rfl rfl)<|pW O O (fun _=>eu (r:=dA (dA hd3 d1) 1) rfl rfl rfl rfl)<|pX O O<|pW O O (fun _=>yf 2 O NR O fB O) fun a hF=>?_
   refine fG O O O (fun K hK=>aX hF O O hA30 O O 0 O (by simp) rfl fB (fun w31 hA32=>hK _ _ (fun h=>absurd h ae) ?_))
   clear hK K
   replace hA32:Hp w0 ([row bb BT [.slice (some ⟨gL,oL,none⟩) ((k0::kr).length) (cL'+1),.slice (some ⟨gW,oW,none⟩) ((k0::kr).length) (cW'+1),.int .i64 (dA (dA hd3 d1) 1),.bool false]]::XL3::XW3::aS (k0::kr)::DD::R) w31:=hA32
   refine bI ?_
   refine hK7 _ _ ?_; clear  hK7 K7
   refine wS hF fun K8 hK8=>vX O<|vX O<|vX O<|vV O (yf 0 O NR O df O)<|vV O (aU O hA32.q O 0 O O eH)<|vV O (dW (v:= .slice (some ⟨gL,oL+1,none⟩) kr.length cL') rfl NS jb rfl (.some (k:=1) rfl rfl) (.none _) (by simp) ag (by rw [show (k0::kr).length-1=kr.length from rfl,show cL'+1-1=cL' from rfl]; unfold sub; rw [if_neg (by simp at hcL; simp at h1; omega),Option.map_some,Addr.add_mid])) fun a hF=>?_
   refine vR hF<|vX O<|vV O (yf 0 O NR O df O) fun a hF=>?_
   refine ax O (fun K hK=>aX hF O O hA32 O O 0 O (by simp) rfl df (fun w33 hA34=>hK _ _ ?_))
   clear hK K
   replace hA34:Hp w0 ([row bb BT [.slice (some ⟨gL,oL+1,none⟩) kr.length cL',.slice (some ⟨gW,oW,none⟩) ((k0::kr).length) (cW'+1),.int .i64 (dA (dA hd3 d1) 1),.bool false]]::XL3::XW3::aS (k0::kr)::DD::R) w33:=hA34
   refine aH<|hK8 _ _ ?_
   clear hK8 K8
   refine wp_region_lit ?_
   refine vR hF<|vX O<|vX O<|vX O<|vV O (yf 1 O NR O df O)<|vV O (aU O hA34.q O 0 O O eH)<|vV O (dW (v:= .slice (some ⟨gW,oW+1,none⟩) kr.length cW') rfl NS jb rfl (.some (k:=1) rfl rfl) (.none _) (by simp) ag (by rw [show (k0::kr).length-1=kr.length from rfl,show cW'+1-1=cW' from rfl]; unfold sub; rw [if_neg (by simp at hcW; simp at h1; omega),Option.map_some,Addr.add_mid])) fun a hF=>?_
   refine vR hF<|vX O<|vV O (yf 1 O NR O df O) fun a hF=>?_
   refine ax O (fun K hK=>aX hF O O hA34 O O 0 O (by simp) rfl df (fun w35 hA36=>hK _ _ ?_))
   clear hK K
   replace hA36:Hp w0 ([row bb BT [.slice (some ⟨gL,oL+1,none⟩) kr.length cL',.slice (some ⟨gW,oW+1,none⟩) kr.length cW',.int .i64 (dA (dA hd3 d1) 1),.bool false]]::XL3::XW3::aS (k0::kr)::DD::R) w35:=hA36
   refine aH ?_
   have hA37:Hp w0 ([row bb BT [.slice (some ⟨gL,oL+1,none⟩) kr.length cL',.slice (some ⟨gW,oW+1,none⟩) kr.length cW',.int .i64 (dA (dA hd3 d1) 1),.bool false]]::XL3::XW3::aS kr::((k0.X++k0.Z)++DD)::R) w35:=Hl.perm hA36 (by
    simp only [List.flatten_cons,aS,List.flatMap_cons,List.append_assoc]
    refine List.Perm.append_left _ (List.Perm.append_left _ (List.Perm.append_left _ ?_))
    exact nK _ _ _ _ _)
   exact ⟨kr.length,by rw [hi]; exact Nat.lt_succ_self _,kr,_,_,_,XL3,XW3,((k0.X++k0.Z)++DD),(fun r hr=>by
    rcases hDD r hr with h | h
    ·unfold aS at h; rw [List.flatMap_cons] at h
     rcases List.mem_append.1 h with h | h
     ·exact .inr (Nr _ h)
     ·exact .inl h
    ·exact .inr (Ns _ h)),rfl,hlastr,by simp at hq4; omega,(fun k hk=>hKq k (Nw _ hk)),hLt,hWt,hF.keep [0] rfl,hA37⟩
  ·by_cases h3:4000<qs.length
   ·apply wp_seq_k; intro K9 hK9
    refine wS hF fun K10 hK10=>vX O<|vX O<|vV O (yf 0 O NR O df O)<|vV O (aU O hA23.q O 0 O O eH)<|vV O (aT O NS O O)<|vV O (aF O O O O (dY ag))<|vX O<|vG O (aV O O)<|vG O (aZ O O)<|vG O (yf 2 O NR O fB O)<|vG O (aU O hA23.q O 0 O O jk)<|vG O (aF O O O O (fE ag))<|vG O (aV O O)<|vG O (aV O O)<|vG O (aZ O O)<|vG O (yf 0 O NR O df O)<|vG O (aU O hA23.q O 0 O O eH)<|vG O (aT O NS O O)<|vG O (aF O O O O (dY ag))<|vG O (bP O O O)<|vV O (bP O O O)<|vE hK10 fun a hF=>?_
    clear hK10 K10
    refine gz hF O ?_
    obtain ⟨k0,kr,rfl⟩:∃ k0 kr,qs=k0::kr:=by
     cases qs with
     | nil=>exact absurd h1 (Nat.not_lt_zero _)
     | cons k0 kr=>exact ⟨k0,kr,rfl⟩
    have hlastr:kr.getLast? = some kn:=by
     cases kr with
     | nil=>simp at h1
     | cons k1 kr=>rw [List.getLast?_cons_cons] at hlast; exact hlast
    obtain ⟨gL,cL',oL,eL,hLt⟩:=Buf.tail (m:=kr.length) (W:=kr.map (·.v)) (u:=k0.v) hLq
    injection eL with eL _ eLc
    subst eL eLc
    obtain ⟨gW,cW',oW,eW,hWt⟩:=Buf.tail (m:=kr.length) (W:=kr.map (·.cv)) (u:=k0.cv) hWq
    injection eW with eW _ eWc
    subst eW eWc
    obtain ⟨hk1,hk2,hk3,hk4⟩:=hKq k0 (Nu ..)
    obtain ⟨B1,d1,ev1,_,_,hr1⟩:=hk3.rcIn (w0:=w0) (R:=[aS (k0::kr)]) (dL (Nu ..)).1 (Nu ..)
    obtain ⟨B2,d2,ev2,_,_,hr2⟩:=hk4.rcIn (w0:=w0) (R:=[aS (k0::kr)]) (dL (Nu ..)).2 (Nu ..)
    obtain ⟨_,_,f1,_,hc1⟩:=hLq.rc (w0:=w0) (R:=[XL3]) (Nu ..)
    injection f1 with f1 _ _
    subst f1
    obtain ⟨_,_,f2,_,hc2⟩:=hWq.rc (w0:=w0) (R:=[XW3]) (Nu ..)
    injection f2 with f2 _ _
    subst f2
    obtain ⟨_,_,f1,hcc1⟩:=hc1.ne (i:=0) (by simp)
    injection f1 with f1
    injection f1 with f1 f1'
    subst f1 f1'
    obtain ⟨_,_,f2,hcc2⟩:=hc2.ne (i:=0) (by simp)
    injection f2 with f2
    injection f2 with f2 f2'
    subst f2 f2'
    apply wp_skip
    refine hK9 _ _ ?_; clear  hK9 K9
    apply wp_block
    apply wp_seq_k; intro K11 hK11
    refine aQ 23 [18,23] [0,1,2,3,4,5,6,7,8,9,10,11,12,13,14,15,16,17,18,19,20,21,22,23] (fun x=>Hq w0 ([row bb BT [.slice (some ⟨gL,oL,none⟩) ((k0::kr).length) (cL'+1),.slice (some ⟨gW,oW,none⟩) ((k0::kr).length) (cW'+1),.int .i64 hd3,.bool false]]::XL3::XW3::aS (k0::kr)::R) x) af af (Hq.drew (Hp.qp [[row bb BT [.slice (some ⟨gL,oL,none⟩) ((k0::kr).length) (cL'+1),.slice (some ⟨gW,oW,none⟩) ((k0::kr).length) (cW'+1),.int .i64 hd3,.bool false]],XL3,XW3,aS (k0::kr),DD] R [0,1,2,3] hA23)) ?_
    have hA38:=Hl.drew hA23
    refine pR hF<|pX O O<|pX O O<|pX O O<|pW O O (fun _=>yf 3 O NR O gm O)<|pV O O (fun x hx=>aU O hx O 0 O O lK)<|pX O O<|pG O O (fun _=>aV O O)<|pG O O (fun _=>aZ O O)<|pG O O (fun _=>yf 0 O NR O df O) fun a hF=>?_
    refine dD hF O O O O O O O ae _ (fun x hx=>aU O hx O 0 O O eH) (fun a hF=>?_)
    refine pR hF<|pG O O (fun _=>aY O NS jT O O 0 O (by simp) (ad2 _ _ _)) fun a hF=>?_
    refine dD hF O O O O O O O ae _ (fun x hx=>bV (u:= .slice B1 k0.l.length d1) rfl (Hq.sub hx (fun x hx=>by rw [List.mem_singleton] at hx; subst hx; simp)) O hcc1 0 (by simp) rfl (show ((k0::kr).map (·.v))[0]? = _ from congrArg some ev1) jV) (fun a hF=>?_)
    refine pR hF<|pG O O (fun _=>aV O O)<|pG O O (fun _=>aZ O O)<|pG O O (fun _=>yf 1 O NR O df O) fun a hF=>?_
    refine dD hF O O O O O O O ae _ (fun x hx=>aU O hx O 0 O O eH) (fun a hF=>?_)
    refine pR hF<|pG O O (fun _=>aY O NS jT O O 0 O (by simp) (ad2 _ _ _)) fun a hF=>?_
    refine dD hF O O O O O O O ae _ (fun x hx=>bV (u:= .slice B2 k0.l.length d2) rfl (Hq.sub hx (fun x hx=>by rw [List.mem_singleton] at hx; subst hx; simp)) O hcc2 0 (by simp) rfl (show ((k0::kr).map (·.cv))[0]? = _ from congrArg some ev2) jV) (fun a hF=>?_)
    refine kW hF O O O O O O (fun K hK=>ay hF O ae vW rfl rfl ?_)
    with_reducible refine (jJ w0 _ ([row bb BT [.slice (some ⟨gL,oL,none⟩) ((k0::kr).length) (cL'+1),.slice (some ⟨gW,oW,none⟩) ((k0::kr).length) (cW'+1),.int .i64 hd3,.bool false]]::XL3::XW3::aS (k0::kr)::DD::R) B1 B2 k0.l k0.l d1 d2 (hr1.mono (by simp)) (hr2.mono (by simp)) hk1 hk1 hA38 hk2).mono ?_
    rintro e' w39 ⟨rfl,hA40⟩
    refine ⟨_,rfl,fun a hF=>hK _ _ (fun _=>?_) ?_⟩
    ·exact Hp.qp [[row bb BT [.slice (some ⟨gL,oL,none⟩) ((k0::kr).length) (cL'+1),.slice (some ⟨gW,oW,none⟩) ((k0::kr).length) (cW'+1),.int .i64 hd3,.bool false]],XL3,XW3,aS (k0::kr),DD] R [0,1,2,3] hA40
    clear hK K
    replace hA40:Hp w0 ([row bb BT [.slice (some ⟨gL,oL,none⟩) ((k0::kr).length) (cL'+1),.slice (some ⟨gW,oW,none⟩) ((k0::kr).length) (cW'+1),.int .i64 hd3,.bool false]]::XL3::XW3::aS (k0::kr)::DD::R) w39:=hA40
    rw [decide_eq_true rfl] at hF
    refine pR hF<|pG O O (fun _=>dm O O O)<|pW O O (fun _=>bP O O O)<|pX O O<|pW O O (fun _=>yf 3 O NR O gm O) fun a hF=>?_
    refine fG O O O (fun K hK=>aX hF O O hA40 O O 0 O (by simp) rfl gm (fun w41 hA42=>hK _ _ (fun h=>absurd h ae) ?_))
    clear hK K
    replace hA42:Hp w0 ([row bb BT [.slice (some ⟨gL,oL,none⟩) ((k0::kr).length) (cL'+1),.slice (some ⟨gW,oW,none⟩) ((k0::kr).length) (cW'+1),.int .i64 hd3,.bool false]]::XL3::XW3::aS (k0::kr)::DD::R) w41:=hA42
    refine bI ?_
    refine hK11 _ _ ?_; clear  hK11 K11
    apply wp_seq_k; intro K12 hK12
    refine aQ 16 [16] [0,1,2,3,4,5,6,7,8,9,10,11,12,13,14,15,16] _ af af (Hq.drew hA42.q) ?_
    have hA43:=Hl.drew hA42
    refine pR hF<|pX O O<|pX O O<|pX O O<|pW O O (fun _=>yf 2 O NR O fB O)<|pV O O (fun x hx=>aU O hx O 0 O O jk)<|pX O O<|pX O O<|pW O O (fun _=>yf 0 O NR O df O)<|pV O O (fun x hx=>aU O hx O 0 O O eH)<|pW O O (fun _=>aY O NS jT O O 0 O (by simp) (ad2 _ _ _))<|pV O O (fun x hx=>bV (u:= .slice B1 k0.l.length d1) rfl (Hq.sub hx (fun x hx=>by rw [List.mem_singleton] at hx; subst hx; simp)) O hcc1 0 (by simp) rfl (show ((k0::kr).map (·.v))[0]? = _ from congrArg some ev1) jV) fun a hF=>?_
    refine pR hF<|pW O O (fun _=>ig O Nk O)<|pW O O (fun _=>eu (r:=dA hd3 d1) rfl rfl rfl rfl)<|pW O O (fun _=>eu (r:=dA (dA hd3 d1) 1) rfl rfl rfl rfl)<|pX O O<|pW O O (fun _=>yf 2 O NR O fB O) fun a hF=>?_
    refine fG O O O (fun K hK=>aX hF O O hA43 O O 0 O (by simp) rfl fB (fun w44 hA45=>hK _ _ (fun h=>absurd h ae) ?_))
    clear hK K
    replace hA45:Hp w0 ([row bb BT [.slice (some ⟨gL,oL,none⟩) ((k0::kr).length) (cL'+1),.slice (some ⟨gW,oW,none⟩) ((k0::kr).length) (cW'+1),.int .i64 (dA (dA hd3 d1) 1),.bool false]]::XL3::XW3::aS (k0::kr)::DD::R) w44:=hA45
    refine bI ?_
    refine hK12 _ _ ?_; clear  hK12 K12
    refine wS hF fun K13 hK13=>vX O<|vX O<|vX O<|vV O (yf 0 O NR O df O)<|vV O (aU O hA45.q O 0 O O eH)<|vV O (dW (v:= .slice (some ⟨gL,oL+1,none⟩) kr.length cL') rfl NS jb rfl (.some (k:=1) rfl rfl) (.none _) (by simp) ag (by rw [show (k0::kr).length-1=kr.length from rfl,show cL'+1-1=cL' from rfl]; unfold sub; rw [if_neg (by simp at hcL; simp at h1; omega),Option.map_some,Addr.add_mid])) fun a hF=>?_
    refine vR hF<|vX O<|vV O (yf 0 O NR O df O) fun a hF=>?_
    refine ax O (fun K hK=>aX hF O O hA45 O O 0 O (by simp) rfl df (fun w46 hA47=>hK _ _ ?_))
    clear hK K
    replace hA47:Hp w0 ([row bb BT [.slice (some ⟨gL,oL+1,none⟩) kr.length cL',.slice (some ⟨gW,oW,none⟩) ((k0::kr).length) (cW'+1),.int .i64 (dA (dA hd3 d1) 1),.bool false]]::XL3::XW3::aS (k0::kr)::DD::R) w46:=hA47
    refine aH<|hK13 _ _ ?_
    clear hK13 K13
    refine wp_region_lit ?_
    refine vR hF<|vX O<|vX O<|vX O<|vV O (yf 1 O NR O df O)<|vV O (aU O hA47.q O 0 O O eH)<|vV O (dW (v:= .slice (some ⟨gW,oW+1,none⟩) kr.length cW') rfl NS jb rfl (.some (k:=1) rfl rfl) (.none _) (by simp) ag (by rw [show (k0::kr).length-1=kr.length from rfl,show cW'+1-1=cW' from rfl]; unfold sub; rw [if_neg (by simp at hcW; simp at h1; omega),Option.map_some,Addr.add_mid])) fun a hF=>?_
    refine vR hF<|vX O<|vV O (yf 1 O NR O df O) fun a hF=>?_
    refine ax O (fun K hK=>aX hF O O hA47 O O 0 O (by simp) rfl df (fun w48 hA49=>hK _ _ ?_))
    clear hK K
    replace hA49:Hp w0 ([row bb BT [.slice (some ⟨gL,oL+1,none⟩) kr.length cL',.slice (some ⟨gW,oW+1,none⟩) kr.length cW',.int .i64 (dA (dA hd3 d1) 1),.bool false]]::XL3::XW3::aS (k0::kr)::DD::R) w48:=hA49
    refine aH ?_
    have hA50:Hp w0 ([row bb BT [.slice (some ⟨gL,oL+1,none⟩) kr.length cL',.slice (some ⟨gW,oW+1,none⟩) kr.length cW',.int .i64 (dA (dA hd3 d1) 1),.bool false]]::XL3::XW3::aS kr::((k0.X++k0.Z)++DD)::R) w48:=Hl.perm hA49 (by
     simp only [List.flatten_cons,aS,List.flatMap_cons,List.append_assoc]
     refine List.Perm.append_left _ (List.Perm.append_left _ (List.Perm.append_left _ ?_))
     exact nK _ _ _ _ _)
    exact ⟨kr.length,by rw [hi]; exact Nat.lt_succ_self _,kr,_,_,_,XL3,XW3,((k0.X++k0.Z)++DD),(fun r hr=>by
     rcases hDD r hr with h | h
     ·unfold aS at h; rw [List.flatMap_cons] at h
      rcases List.mem_append.1 h with h | h
      ·exact .inr (Nr _ h)
      ·exact .inl h
     ·exact .inr (Ns _ h)),rfl,hlastr,by simp at hq4; omega,(fun k hk=>hKq k (Nw _ hk)),hLt,hWt,hF.keep [0] rfl,hA50⟩
   ·apply wp_seq_k; intro K14 hK14
    refine wS hF fun K15 hK15=>vX O<|vX O<|vV O (yf 0 O NR O df O)<|vV O (aU O hA23.q O 0 O O eH)<|vV O (aT O NS O O)<|vV O (aF O O O O (dY ag))<|vX O<|vG O (aV O O)<|vG O (aZ O O)<|vG O (yf 2 O NR O fB O)<|vG O (aU O hA23.q O 0 O O jk)<|vG O (aF O O O O (fE ag))<|vG O (aV O O)<|vG O (aV O O)<|vG O (aZ O O)<|vG O (yf 0 O NR O df O)<|vG O (aU O hA23.q O 0 O O eH)<|vG O (aT O NS O O)<|vG O (aF O O O O (fE ag))<|vG O (bP O O O)<|vV O (bP O O O)<|vE hK15 fun a hF=>?_
    clear hK15 K15
    refine dn hF O ?_
    apply wp_exit
    simp only [Exit.then,Exit.inBlock,↓reduceIte]
    refine gJ hF Tryz.results36 ?_
    refine ⟨qs,.slice AL qs.length cL,.slice AW qs.length cW,hd3,XL3++(XW3++aS qs),DD,rfl,⟨ ag,XL3,XW3,hLq,hWq,hKq,rfl⟩,fun r hr=>?_,fun r hr=>?_,hA23.cast (by simp)⟩
    rotate_left
    ·rcases hDD r (by unfold aS; rw [List.flatMap_append]; exact Nr _ hr) with h | h
     ·exact .inl h
     ·exact .inr h
    refine (dL (List.mem_of_getLast? hlast)).1 ?_
    rw [hkn]; exact hr
 ·apply wp_seq_k; intro K16 hK16
  refine wS hF fun K17 hK17=>vX O<|vX O<|vV O (yf 0 O NR O df O)<|vV O (aU O hA23.q O 0 O O eH)<|vV O (aT O NS O O)<|vV O (aF O O O O (fE ag))<|vX O<|vS O<|vS O<|vS O<|vS O<|vS O<|vS O fun a hF=>?_
  refine bD hF O O O O O ae (fun a hF=>?_)
  refine bD hF O O O O O ae (fun a hF=>?_)
  refine bD hF O O O O O ae (fun a hF=>?_)
  refine bD hF O O O O O ae (fun a hF=>?_)
  refine bD hF O O O O O ae (fun a hF=>?_)
  refine bD hF O O O O O ae (fun a hF=>?_)
  refine vR hF<|vS O<|vV O (bP O O O)<|vE hK17 fun a hF=>?_
  clear hK17 K17
  refine dn hF O ?_
  apply wp_exit
  simp only [Exit.then,Exit.inBlock,↓reduceIte]
  refine gJ hF Tryz.results36 ?_
  refine ⟨qs,.slice AL qs.length cL,.slice AW qs.length cW,hd3,XL3++(XW3++aS qs),DD,rfl,⟨ ag,XL3,XW3,hLq,hWq,hKq,rfl⟩,fun r hr=>?_,fun r hr=>?_,hA23.cast (by simp)⟩
  rotate_left
  ·rcases hDD r (by unfold aS; rw [List.flatMap_append]; exact Nr _ hr) with h | h
   ·exact .inl h
   ·exact .inr h
  refine (dL (List.mem_of_getLast? hlast)).1 ?_
  rw [hkn]; exact hr
theorem sJ {lv wv:Value} {BT:TypeId} {held:Int} (w0 w:World) (R:List Seg) (bb:Nat) (ks:List (KeptX (UInt8))) (Y:Seg) (hb:BookV cB 27 5 1 ks lv wv Y) (hA:Hp w0 ([row bb BT [lv,wv,.int .i64 held,.bool false]]::Y::R) w):Calls Tryz.prog 104 #[.pointer (some ⟨bb,0,none⟩)] w fun e w'=>e= .returned (.bool true)∧Hp w0 ([row bb BT [lv,wv,.int .i64 held,.bool false]]::Y::R) w':=by
 obtain ⟨hn4,XL,XW,hL,hW,hK,rfl⟩:=hb
 replace hA:Hp w0 ([row bb BT [lv,wv,.int .i64 held,.bool false]]::XL::XW::aS ks::R) w:=hA.cast (by simp)
 obtain ⟨AL,cL,rfl,hcL⟩:=hL.slice
 obtain ⟨AW,cW,rfl,hcW⟩:=hW.slice
 refine aP Tryz.func104 O Tryz.ntmps104 ai (fun a hF=>?_)
 refine wS hF fun K1 hK1=>vX O<|vE hK1 fun a hF=>?_
 clear hK1 K1
 apply wp_seq_k; intro K2 hK2
 refine wS hF fun K3 hK3=>vX O<|vE hK3 fun a hF=>?_
 clear hK3 K3
 apply wp_block
 refine bH (G:=Nat) (fun i a x=>i≤ks.length∧Fr 43 [(3,.int .i64 (i:Int)),(0,.pointer (some ⟨bb,0,none⟩))] a∧Hp w0 ([row bb BT [.slice AL ks.length cL,.slice AW ks.length cW,.int .i64 held,.bool false]]::XL::XW::aS ks::R) x) (fun i=>ks.length-i) 0 (⟨Nl _,hF.keep [3,0] rfl,hA⟩) ?_
 clear hF
 rintro i a w2 ⟨hi,hF,hA1⟩
 apply wp_seq_k; intro K4 hK4
 refine wS hF fun K5 hK5=>vX O<|vX O<|vX O<|vV O (yf 0 O NP O dh O)<|vV O (aU O hA1.q O 0 O O eP)<|vV O (aT O NQ O O)<|vV O (aF O O O O O)<|vE hK5 fun a hF=>?_
 clear hK5 K5
 by_cases hlt:i<ks.length
 ·refine aG hF O (dF ag) ?_
  obtain ⟨k0,hk0⟩:∃ k0,ks[i]? = some k0:=⟨_,List.getElem?_eq_getElem hlt⟩
  have hmem:=List.mem_of_getElem? hk0
  obtain ⟨hk1,hk2,hk3,hk4⟩:=hK k0 hmem
  obtain ⟨B1,d1,ev1,_,_,hr1⟩:=hk3.rcIn (w0:=w0) (R:=[aS ks]) (dL hmem).1 (Nu ..)
  obtain ⟨B2,d2,ev2,_,_,hr2⟩:=hk4.rcIn (w0:=w0) (R:=[aS ks]) (dL hmem).2 (Nu ..)
  obtain ⟨_,_,f1,_,hc1⟩:=hL.rc (w0:=w0) (R:=[XL]) (Nu ..)
  injection f1 with f1 _ _
  subst f1
  obtain ⟨_,_,f2,_,hc2⟩:=hW.rc (w0:=w0) (R:=[XW]) (Nu ..)
  injection f2 with f2 _ _
  subst f2
  obtain ⟨gL,oL,rfl,hcc1⟩:=hc1.ne (i:=i) (by rw [List.length_map]; exact hlt)
  obtain ⟨gW,oW,rfl,hcc2⟩:=hc2.ne (i:=i) (by rw [List.length_map]; exact hlt)
  apply wp_skip
  refine hK4 _ _ ?_; clear  hK4 K4
  apply wp_seq_k; intro K6 hK6
  apply wp_block
  refine aQ 23 [20,23,24,25] [0,1,2,3,4,5,6,7,8,9,10,11,12,13,14,15,16,17,18,19,20,21,22,23,24,25] _ af af (Hq.drew hA1.q) ?_
  have hA3:=Hl.drew hA1
  refine pR hF<|pX O O<|pX O O<|pX O O<|pW O O (fun _=>yf 3 O NP O gm O)<|pV O O (fun x hx=>aU O hx O 0 O O lK)<|pX O O<|pG O O (fun _=>aV O O)<|pG O O (fun _=>aZ O O)<|pG O O (fun _=>yf 0 O NP O dh O) fun a hF=>?_
  refine dD hF O O O O O O O ae _ (fun x hx=>aU O hx O 0 O O eP) (fun a hF=>?_)
  refine pR hF<|pG O O (fun _=>aV O O)<|pG O O (fun _=>aY O NQ jS O O i rfl hlt (ad2 _ _ _)) fun a hF=>?_
  refine dD hF O O O O O O O ae _ (fun x hx=>bV (u:= .slice B1 k0.l.length d1) rfl (Hq.sub hx (fun x hx=>by rw [List.mem_singleton] at hx; subst hx; simp)) O hcc1 i (by rw [List.length_map]; exact hlt) rfl (by rw [List.getElem?_map,hk0]; exact congrArg some ev1) jU) (fun a hF=>?_)
  refine pR hF<|pG O O (fun _=>aV O O)<|pG O O (fun _=>aZ O O)<|pG O O (fun _=>yf 1 O NP O dh O) fun a hF=>?_
  refine dD hF O O O O O O O ae _ (fun x hx=>aU O hx O 0 O O eP) (fun a hF=>?_)
  refine pR hF<|pG O O (fun _=>aV O O)<|pG O O (fun _=>aY O NQ jS O O i rfl hlt (ad2 _ _ _)) fun a hF=>?_
  refine dD hF O O O O O O O ae _ (fun x hx=>bV (u:= .slice B2 k0.l.length d2) rfl (Hq.sub hx (fun x hx=>by rw [List.mem_singleton] at hx; subst hx; simp)) O hcc2 i (by rw [List.length_map]; exact hlt) rfl (by rw [List.getElem?_map,hk0]; exact congrArg some ev2) jU) (fun a hF=>?_)
  refine kW hF O O O O O O (fun K hK=>ay hF O ae vZ rfl rfl ?_)
  with_reducible refine (kS w0 _ ([row bb BT [.slice (some ⟨gL,oL,none⟩) ks.length cL,.slice (some ⟨gW,oW,none⟩) ks.length cW,.int .i64 held,.bool false]]::XL::XW::aS ks::R) B1 B2 k0.l k0.l d1 d2 (hr1.mono (by simp)) (hr2.mono (by simp)) hk1 hk1 hA3 hk2).mono ?_
  rintro e' w4 ⟨rfl,hA5⟩
  refine ⟨_,rfl,fun a hF=>hK _ _ (fun _=>?_) ?_⟩
  ·exact hA5.q
  clear hK K
  replace hA5:Hp w0 ([row bb BT [.slice (some ⟨gL,oL,none⟩) ks.length cL,.slice (some ⟨gW,oW,none⟩) ks.length cW,.int .i64 held,.bool false]]::XL::XW::aS ks::R) w4:=hA5
  rw [decide_eq_true rfl] at hF
  refine pR hF<|pG O O (fun _=>dm O O O)<|pW O O (fun _=>bP O O O) fun a hF=>?_
  refine dG hF O O O O ae _ (aZ O O) (fun h=>absurd h ae) (fun a hF=>?_)
  refine dG hF O O O O ae _ (yf 3 O NP O gm O) (fun h=>absurd h ae) (fun a hF=>?_)
  refine fG O O O (fun K hK=>aX hF O O hA5 O O 0 O (by simp) rfl gm (fun w6 hA7=>hK _ _ (fun h=>absurd h ae) ?_))
  clear hK K
  replace hA7:Hp w0 ([row bb BT [.slice (some ⟨gL,oL,none⟩) ks.length cL,.slice (some ⟨gW,oW,none⟩) ks.length cW,.int .i64 held,.bool false]]::XL::XW::aS ks::R) w6:=hA7
  refine bI ?_
  refine hK6 _ _ ?_; clear  hK6 K6
  refine wp_region_lit ?_
  refine vR hF<|vX O<|vV O (bT O O O (Np _ ag))<|vX O fun a hF=>?_
  refine aH ?_
  exact ⟨i+1,ag,ag,hF.keep [3,0] rfl,hA7⟩
 ·refine au hF O (dE ag) ?_
  apply wp_exit
  refine hK2 _ _ ?_; clear hK4 K4 hK2 K2
  refine wS hF fun K7 hK7=>vX O<|vX O<|vV O (yf 3 O NP O gm O)<|vV O (aU O hA1.q O 0 O O lK)<|vV O (dm O O O)<|vX O<|vE hK7 fun a hF=>?_
  clear hK7 K7
  apply wp_ret
  refine aO hF Tryz.results104 O ?_
  exact ⟨rfl,hA1.cast (by simp)⟩
theorem qg {lv wv:Value} {BT:TypeId} {held:Int} (w0 w:World) (R:List Seg) (bb:Nat) (ks:List (KeptX (List UInt8))) (Y:Seg) (hb:BookV cS 23 9 1 ks lv wv Y) (hA:Hp w0 ([row bb BT [lv,wv,.int .i64 held,.bool false]]::Y::R) w):Calls Tryz.prog 105 #[.pointer (some ⟨bb,0,none⟩)] w fun e w'=>e= .returned (.bool true)∧Hp w0 ([row bb BT [lv,wv,.int .i64 held,.bool false]]::Y::R) w':=by
 obtain ⟨hn4,XL,XW,hL,hW,hK,rfl⟩:=hb
 replace hA:Hp w0 ([row bb BT [lv,wv,.int .i64 held,.bool false]]::XL::XW::aS ks::R) w:=hA.cast (by simp)
 obtain ⟨AL,cL,rfl,hcL⟩:=hL.slice
 obtain ⟨AW,cW,rfl,hcW⟩:=hW.slice
 refine aP Tryz.func105 O Tryz.ntmps105 ai (fun a hF=>?_)
 refine wS hF fun K1 hK1=>vX O<|vE hK1 fun a hF=>?_
 clear hK1 K1
 apply wp_seq_k; intro K2 hK2
 refine wS hF fun K3 hK3=>vX O<|vE hK3 fun a hF=>?_
 clear hK3 K3
 apply wp_block
 refine bH (G:=Nat) (fun i a x=>i≤ks.length∧Fr 43 [(3,.int .i64 (i:Int)),(0,.pointer (some ⟨bb,0,none⟩))] a∧Hp w0 ([row bb BT [.slice AL ks.length cL,.slice AW ks.length cW,.int .i64 held,.bool false]]::XL::XW::aS ks::R) x) (fun i=>ks.length-i) 0 (⟨Nl _,hF.keep [3,0] rfl,hA⟩) ?_
 clear hF
 rintro i a w2 ⟨hi,hF,hA1⟩
 apply wp_seq_k; intro K4 hK4
 refine wS hF fun K5 hK5=>vX O<|vX O<|vX O<|vV O (yf 0 O NR O df O)<|vV O (aU O hA1.q O 0 O O eH)<|vV O (aT O NS O O)<|vV O (aF O O O O O)<|vE hK5 fun a hF=>?_
 clear hK5 K5
 by_cases hlt:i<ks.length
 ·refine aG hF O (dF ag) ?_
  obtain ⟨k0,hk0⟩:∃ k0,ks[i]? = some k0:=⟨_,List.getElem?_eq_getElem hlt⟩
  have hmem:=List.mem_of_getElem? hk0
  obtain ⟨hk1,hk2,hk3,hk4⟩:=hK k0 hmem
  obtain ⟨B1,d1,ev1,_,_,hr1⟩:=hk3.rcIn (w0:=w0) (R:=[aS ks]) (dL hmem).1 (Nu ..)
  obtain ⟨B2,d2,ev2,_,_,hr2⟩:=hk4.rcIn (w0:=w0) (R:=[aS ks]) (dL hmem).2 (Nu ..)
  obtain ⟨_,_,f1,_,hc1⟩:=hL.rc (w0:=w0) (R:=[XL]) (Nu ..)
  injection f1 with f1 _ _
  subst f1
  obtain ⟨_,_,f2,_,hc2⟩:=hW.rc (w0:=w0) (R:=[XW]) (Nu ..)
  injection f2 with f2 _ _
  subst f2
  obtain ⟨gL,oL,rfl,hcc1⟩:=hc1.ne (i:=i) (by rw [List.length_map]; exact hlt)
  obtain ⟨gW,oW,rfl,hcc2⟩:=hc2.ne (i:=i) (by rw [List.length_map]; exact hlt)
  apply wp_skip
  refine hK4 _ _ ?_; clear  hK4 K4
  apply wp_seq_k; intro K6 hK6
  apply wp_block
  refine aQ 23 [20,23,24,25] [0,1,2,3,4,5,6,7,8,9,10,11,12,13,14,15,16,17,18,19,20,21,22,23,24,25] _ af af (Hq.drew hA1.q) ?_
  have hA3:=Hl.drew hA1
  refine pR hF<|pX O O<|pX O O<|pX O O<|pW O O (fun _=>yf 3 O NR O gm O)<|pV O O (fun x hx=>aU O hx O 0 O O lK)<|pX O O<|pG O O (fun _=>aV O O)<|pG O O (fun _=>aZ O O)<|pG O O (fun _=>yf 0 O NR O df O) fun a hF=>?_
  refine dD hF O O O O O O O ae _ (fun x hx=>aU O hx O 0 O O eH) (fun a hF=>?_)
  refine pR hF<|pG O O (fun _=>aV O O)<|pG O O (fun _=>aY O NS jT O O i rfl hlt (ad2 _ _ _)) fun a hF=>?_
  refine dD hF O O O O O O O ae _ (fun x hx=>bV (u:= .slice B1 k0.l.length d1) rfl (Hq.sub hx (fun x hx=>by rw [List.mem_singleton] at hx; subst hx; simp)) O hcc1 i (by rw [List.length_map]; exact hlt) rfl (by rw [List.getElem?_map,hk0]; exact congrArg some ev1) jV) (fun a hF=>?_)
  refine pR hF<|pG O O (fun _=>aV O O)<|pG O O (fun _=>aZ O O)<|pG O O (fun _=>yf 1 O NR O df O) fun a hF=>?_
  refine dD hF O O O O O O O ae _ (fun x hx=>aU O hx O 0 O O eH) (fun a hF=>?_)
  refine pR hF<|pG O O (fun _=>aV O O)<|pG O O (fun _=>aY O NS jT O O i rfl hlt (ad2 _ _ _)) fun a hF=>?_
  refine dD hF O O O O O O O ae _ (fun x hx=>bV (u:= .slice B2 k0.l.length d2) rfl (Hq.sub hx (fun x hx=>by rw [List.mem_singleton] at hx; subst hx; simp)) O hcc2 i (by rw [List.length_map]; exact hlt) rfl (by rw [List.getElem?_map,hk0]; exact congrArg some ev2) jV) (fun a hF=>?_)
  refine kW hF O O O O O O (fun K hK=>ay hF O ae vW rfl rfl ?_)
  with_reducible refine (jJ w0 _ ([row bb BT [.slice (some ⟨gL,oL,none⟩) ks.length cL,.slice (some ⟨gW,oW,none⟩) ks.length cW,.int .i64 held,.bool false]]::XL::XW::aS ks::R) B1 B2 k0.l k0.l d1 d2 (hr1.mono (by simp)) (hr2.mono (by simp)) hk1 hk1 hA3 hk2).mono ?_
  rintro e' w4 ⟨rfl,hA5⟩
  refine ⟨_,rfl,fun a hF=>hK _ _ (fun _=>?_) ?_⟩
  ·exact hA5.q
  clear hK K
  replace hA5:Hp w0 ([row bb BT [.slice (some ⟨gL,oL,none⟩) ks.length cL,.slice (some ⟨gW,oW,none⟩) ks.length cW,.int .i64 held,.bool false]]::XL::XW::aS ks::R) w4:=hA5
  rw [decide_eq_true rfl] at hF
  refine pR hF<|pG O O (fun _=>dm O O O)<|pW O O (fun _=>bP O O O) fun a hF=>?_
  refine dG hF O O O O ae _ (aZ O O) (fun h=>absurd h ae) (fun a hF=>?_)
  refine dG hF O O O O ae _ (yf 3 O NR O gm O) (fun h=>absurd h ae) (fun a hF=>?_)
  refine fG O O O (fun K hK=>aX hF O O hA5 O O 0 O (by simp) rfl gm (fun w6 hA7=>hK _ _ (fun h=>absurd h ae) ?_))
  clear hK K
  replace hA7:Hp w0 ([row bb BT [.slice (some ⟨gL,oL,none⟩) ks.length cL,.slice (some ⟨gW,oW,none⟩) ks.length cW,.int .i64 held,.bool false]]::XL::XW::aS ks::R) w6:=hA7
  refine bI ?_
  refine hK6 _ _ ?_; clear  hK6 K6
  refine wp_region_lit ?_
  refine vR hF<|vX O<|vV O (bT O O O (Np _ ag))<|vX O fun a hF=>?_
  refine aH ?_
  exact ⟨i+1,ag,ag,hF.keep [3,0] rfl,hA7⟩
 ·refine au hF O (dE ag) ?_
  apply wp_exit
  refine hK2 _ _ ?_; clear hK4 K4 hK2 K2
  refine wS hF fun K7 hK7=>vX O<|vX O<|vV O (yf 3 O NR O gm O)<|vV O (aU O hA1.q O 0 O O lK)<|vV O (dm O O O)<|vX O<|vE hK7 fun a hF=>?_
  clear hK7 K7
  apply wp_ret
  refine aO hF Tryz.results105 O ?_
  exact ⟨rfl,hA1.cast (by simp)⟩
end Go.Proofs.YtepbmdlgdaedpaaGreatDoor
