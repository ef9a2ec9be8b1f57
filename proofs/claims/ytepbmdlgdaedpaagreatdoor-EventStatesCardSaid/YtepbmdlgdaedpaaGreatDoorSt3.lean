/- What a State is, the document's own: the walk. -/
import Derived.Test.YtepbmdlgdaedpaaGreatDoorSt2
import Derived.Test.YtepbmdlgdaedpaaGreatDoorR2
/- What a State is, the document's own: the walk. -/
namespace Go.Proofs.YtepbmdlgdaedpaaGreatDoor
open Go.RowKit Go.Dk
theorem Jg:aP Tryz.prog 49:=⟨_,Tryz.func49,af,af⟩
theorem FP:aP Tryz.prog 114:=⟨_,Tryz.func114,af,af⟩
theorem FO:aP Tryz.prog 115:=⟨_,Tryz.func115,af,af⟩
theorem qU:aP Tryz.prog 116:=⟨_,Tryz.func116,af,af⟩
theorem Ox {a b c:Nat} (h:(((aF .gtr (a) (64)) || (aF .gtr (b) (64))) || (aF .gtr (c) (64)))=true):64<max (max a b) c:=by
 simp [aF] at h
 omega
theorem Oy {a b c:Nat} (h:(((aF .gtr (a) (64)) || (aF .gtr (b) (64))) || (aF .gtr (c) (64)))=false):¬ 64<max (max a b) c:=by
 simp [aF] at h
 omega
set_option maxRecDepth 100000 in
set_option maxHeartbeats 8000000 in
theorem G6 {w0:World} {R:List Seg} {G:List Seg} (n:Int) (ch:List UInt8) (ca:CA) (A1:Option Addr) (l1:List (List UInt8)) (c1:Nat) (A2:Option Addr) (l2:List (List UInt8)) (c2:Nat) (A3:Option Addr) (l3:List (List UInt8)) (c3:Nat) (w:World) (hT:JU w0) (hch:ch.length=32) (hC:ca.Ok w0 G) (h1:Rc w0 G A1 (l1.map ak)) (h2:Rc w0 G A2 (l2.map ak)) (h3:Rc w0 G A3 (l3.map ak)) (hG:G⊆R) (hA:Hp w0 R w):Calls Tryz.prog 56 #[.agg (.int .i64 n::dc ch:List Value).toArray,.agg ca.cells.toArray,.slice A1 l1.length c1,.slice A2 l2.length c2,.slice A3 l3.length c3] w fun e w'=>∃ v Z,e= .returned (.tuple #[v,.int .i64 (stE ca.typ (l1.map (jL ca.bind)) l1.length l2.length l3.length:Nat)])∧Buf 5 1 Z v (stX ca n ch l1 l2 l3).length (dc (stX ca n ch l1 l2 l3))∧Hp w0 (Z::R) w':=by
 have h32:=hC.h32
 obtain ⟨vs,hvs⟩:∃ vs,vs=l1.map (jL ca.bind):=⟨_,rfl⟩
 obtain ⟨lf,hlf⟩:∃ lf,lf=l2.map (mX ca.opn ca.clo):=⟨_,rfl⟩
 obtain ⟨mk,hmk⟩:∃ mk:List Bool,mk=l3.map (fun m=>decide (m∈ca.rea)):=⟨_,rfl⟩
 have hvl:vs.length=l1.length:=by rw [hvs,List.length_map]
 have hll:lf.length=l2.length:=by rw [hlf,List.length_map]
 have hml:mk.length=l3.length:=by rw [hmk,List.length_map]
 rw [← hvs]
 refine aQ Tryz.func56 O Tryz.ntmps56 ai (fun a hF=>?_)
 refine wp_seq_k fun K1 hK1=>wp_region_lit ?_
 refine ax O (fun K hK=>dL (cs:= .int .i64 n::dc ch) hF O ae rfl hA O (fun b1 w2 a hb1 hF hA3=>hK _ _ ?_))
 refine ax O (fun K hK=>dL (cs:=ca.cells) hF O ae rfl hA3 O (fun b4 w5 a hb4 hF hA6=>hK _ _ ?_))
 refine vR hF<|vX O<|vX O<|vE hK1<|wQ fun K2 hK2=>wT fun K3 hK3=>vV O (yf 1 O QL O xq O)<|vV O (aX (u:=ak ca.typ) rfl hA6.q O 0 O O xM) fun a hF=>?_
 refine ax O (fun K hK=>ay hF O ae FP rfl rfl ?_)
 with_reducible refine (G8 ca.typ _ hT hA6).mono ?_
 rintro e' w9 ⟨rfl,rfl⟩
 refine ⟨_,rfl,fun a hF=>hK _ _ ?_⟩
 refine vR hF<|vV O (dI O O O)<|vE hK3 fun a hF=>?_
 rcases tf (bZ ca.typ) with hl | hl
 ·refine aG hF O (by rw [hl]; rfl) ?_
  refine wS hF fun K4 hK4=>vX O<|vX O<|vE hK4 fun a hF=>?_
  apply wp_ret
  simp only [Exit.then]
  refine gp hF Tryz.results56 O O ?_
  have hA10:Hp w0 (R) w5:=hpS 2 [] [0,1] hA6 rfl
  have e0:stE ca.typ vs l1.length l2.length l3.length=34:=if_pos hl
  rw [e0]
  exact ⟨_,[],rfl,by rw [oN (by rw [← hvs,e0]; decide)]; exact Buf.nil _ _,Hp.nil hA10⟩
 ·refine au hF O (by rw [hl]; rfl) ?_
  have htl:=fH hl
  apply wp_skip
  refine hK2 _ _ ?_
  apply wp_seq_k; intro K5 hK5
  refine wS hF fun K6 hK6=>vX O<|vV O (aT O Qr O O)<|vV O (aJ O O O O O)<|vX O fun a hF=>?_
  refine bF (l2:=?lA1) hF [(29,.bool ((aF .gtr (l1.length) (64)) || (aF .gtr (l2.length) (64)))),(0,.agg ((.int .i64 n::dc ch)).toArray),(1,.agg (ca.cells).toArray),(2,.slice A1 l1.length c1),(3,.slice A2 l2.length c2),(4,.slice A3 l3.length c3),(5,.pointer (some ⟨b1,0,none⟩)),(6,.pointer (some ⟨b4,0,none⟩)),(10,.slice none 0 0),(11,.int .i64 0),(18,.pointer (some ⟨b4,1,none⟩)),(19,ak ca.typ),(20,.bool (bZ ca.typ)),(21,.bool (!(bZ ca.typ)))] (fun hJ1=>?elA1) (fun a hF=>?flA1)
  case elA1 =>
   rcases tf (aF .gtr (l1.length) (64)) with hg1 | hg1
   ·refine aI hF O O O O (aj hg1) ae _ (aY O O) (fun a hF=>?_)
    refine aI hF O O O O (aj hg1) ae _ (aT O Qr O O) (fun a hF=>?_)
    refine aI hF O O O O (aj hg1) ae _ (aJ O O O O O) (fun a hF=>?_)
    refine vR hF<|vV O (aV hg1 rfl rfl rfl) fun a hF=>?_
    exact hJ1 _ ((hF.keep [29,0,1,2,3,4,5,6,10,11,18,19,20,21] (F':=[(29,_),(0,_),(1,_),(2,_),(3,_),(4,_),(5,_),(6,_),(10,_),(11,_),(18,_),(19,_),(20,_),(21,_)]) O).bool (by rw [hg1]; rfl))
   ·refine az hF O O O O O (aB hg1) ae (fun a hF=>?_)
    refine az hF O O O O O (aB hg1) ae (fun a hF=>?_)
    refine az hF O O O O O (aB hg1) ae (fun a hF=>?_)
    refine vR hF<|vV O (bg hg1 rfl rfl rfl) fun a hF=>?_
    exact hJ1 _ ((hF.keep [29,0,1,2,3,4,5,6,10,11,18,19,20,21] (F':=[(29,_),(0,_),(1,_),(2,_),(3,_),(4,_),(5,_),(6,_),(10,_),(11,_),(18,_),(19,_),(20,_),(21,_)]) O).bool (by rw [hg1]; rfl))
  refine vR hF<|vX O fun a hF=>?_
  refine bF (l2:=?lA2) hF [(34,.bool (((aF .gtr (l1.length) (64)) || (aF .gtr (l2.length) (64))) || (aF .gtr (l3.length) (64)))),(0,.agg ((.int .i64 n::dc ch)).toArray),(1,.agg (ca.cells).toArray),(2,.slice A1 l1.length c1),(3,.slice A2 l2.length c2),(4,.slice A3 l3.length c3),(5,.pointer (some ⟨b1,0,none⟩)),(6,.pointer (some ⟨b4,0,none⟩)),(10,.slice none 0 0),(11,.int .i64 0),(18,.pointer (some ⟨b4,1,none⟩)),(19,ak ca.typ),(20,.bool (bZ ca.typ)),(21,.bool (!(bZ ca.typ)))] (fun hJ2=>?elA2) (fun a hF=>?flA2)
  case elA2 =>
   rcases tf ((aF .gtr (l1.length) (64)) || (aF .gtr (l2.length) (64))) with hg2 | hg2
   ·refine aI hF O O O O (aj hg2) ae _ (aY O O) (fun a hF=>?_)
    refine aI hF O O O O (aj hg2) ae _ (aT O Qr O O) (fun a hF=>?_)
    refine aI hF O O O O (aj hg2) ae _ (aJ O O O O O) (fun a hF=>?_)
    refine vR hF<|vV O (aV hg2 rfl rfl rfl) fun a hF=>?_
    exact hJ2 _ ((hF.keep [34,0,1,2,3,4,5,6,10,11,18,19,20,21] (F':=[(34,_),(0,_),(1,_),(2,_),(3,_),(4,_),(5,_),(6,_),(10,_),(11,_),(18,_),(19,_),(20,_),(21,_)]) O).bool (by rw [hg2]; rfl))
   ·refine az hF O O O O O (aB hg2) ae (fun a hF=>?_)
    refine az hF O O O O O (aB hg2) ae (fun a hF=>?_)
    refine az hF O O O O O (aB hg2) ae (fun a hF=>?_)
    refine vR hF<|vV O (bg hg2 rfl rfl rfl) fun a hF=>?_
    exact hJ2 _ ((hF.keep [34,0,1,2,3,4,5,6,10,11,18,19,20,21] (F':=[(34,_),(0,_),(1,_),(2,_),(3,_),(4,_),(5,_),(6,_),(10,_),(11,_),(18,_),(19,_),(20,_),(21,_)]) O).bool (by rw [hg2]; rfl))
  refine aK<|hK6 _ _ ?_
  rcases tf (((aF .gtr (l1.length) (64)) || (aF .gtr (l2.length) (64))) || (aF .gtr (l3.length) (64))) with hm | hm
  ·refine au hF O hm ?_
   have hm0:=Oy hm
   have hm1:l1.length≤64∧l2.length≤64∧l3.length≤64:=by omega
   have e1:stE ca.typ vs l1.length l2.length l3.length=dU vs:=(if_neg (by rw [hl]; decide)).trans (if_neg hm0)
   apply wp_skip
   refine hK5 _ _ ?_
   apply wp_seq_k; intro K7 hK7
   refine aU 7 [2,5,6,7] [0,1,3,4,2,5,6,7] _ af af (Hq.drew hA6.q) ?_
   have hA11:=Hl.drew hA6
   refine pR hF<|pW O O (fun _=>yf 1 O QL O xq O)<|pV O O (fun x hx=>aX (u:=ak ca.typ) rfl hx O 0 O O xM)<|pW O O (fun _=>yf 0 O QV O jC O)<|pV O O (fun x hx=>aX (u:= .int .i64 n) rfl hx O 1 O O nJ) fun a hF=>?_
   refine gG O O O (fun K hK=>ay hF O ae wW rfl rfl ?_)
   with_reducible refine (xy ca.typ _ ag hA11).mono ?_
   rintro e' w12 ⟨vN1,ZN1,rfl,hN1,hA13⟩
   refine ⟨_,rfl,fun a hF=>hK _ _ (fun _=>?_) ?_⟩
   ·exact (qT hA13)
   replace hA13:Hp w0 (ZN1::[row b4 52 ca.cells]::[row b1 49 (.int .i64 n::dc ch)]::R) w12:=hA13
   obtain ⟨_,AN1,cN1,rfl,hcN1,hRN1⟩:=hN1.rd (w0:=w0) (R:=[ZN1]) (Qx ..)
   refine gG O O O (fun K hK=>ay hF O ae FQ rfl rfl ?_)
   with_reducible refine (jm n 8 8 _ O ae hA13).mono ?_
   rintro e' w14 ⟨vN2,ZN2,rfl,hN2,hA15⟩
   refine ⟨_,rfl,fun a hF=>hK _ _ (fun _=>?_) ?_⟩
   ·exact Hp.qp [ZN2,ZN1,[row b4 52 ca.cells],[row b1 49 (.int .i64 n::dc ch)]] R [2,3] hA15
   replace hA15:Hp w0 (ZN2::ZN1::[row b4 52 ca.cells]::[row b1 49 (.int .i64 n::dc ch)]::R) w14:=hA15
   obtain ⟨_,AN2,cN2,rfl,hcN2,hRN2⟩:=hN2.rd (w0:=w0) (R:=[ZN2]) (Qx ..)
   refine gG O O O (fun K hK=>bM hF O ae rfl hA15 1 O hN1 Qv cZ rfl rfl (Rc.src hRN2 (Hq.sub hA15.q (List.cons_subset.2 ⟨((Qx ..)),List.nil_subset _⟩)) Qv) (by rw [eU,aW]; omega) ae (fun v3 X3 w16 a hB3 hF hA17=>hK _ _ (fun _=>?_) ?_))
   ·exact Hp.qp [ZN2,X3,[row b4 52 ca.cells],[row b1 49 (.int .i64 n::dc ch)]] R [2,3] hA17
   replace hA17:Hp w0 (ZN2::X3::[row b4 52 ca.cells]::[row b1 49 (.int .i64 n::dc ch)]::R) w16:=hA17
   replace hB3:Buf 5 1 X3 v3 (nameB ca.typ++be 8 (u64 n)).length (dc (nameB ca.typ++be 8 (u64 n))):=by rw [List.length_append,bK]; exact hB3
   refine gu hF O O O O ae _ (jW O O) (fun h=>absurd h ae) (fun a hF=>?_)
   refine bP ?_
   refine hK7 _ _ ?_
   refine wS hF fun K8 hK8=>vX O<|vV O (yf 1 O QV O CX O)<|vV O (kP O QA xu O (.none 0) (.none 32) (Qs _) (Qw _) (show Value.slice (sub (some ⟨b1,1,none⟩) 0 32 1) (32-0) (32-0)= .slice (some ⟨b1,1,none⟩) ch.length 32 by rw [hch]; rfl)) fun a hF=>?_
   refine ax O (fun K hK=>bM hF O ae rfl hA17 1 O hB3 Qv cZ rfl rfl (Rc.src (Rc.ofRow (R:=ZN2::X3::[row b4 52 ca.cells]::[row b1 49 (.int .i64 n::dc ch)]::R) (i:=3) (off:=1) rfl (by show ((dc ch).take (dc ch).length)=_; exact List.take_length ..)) hA17.q Qv) (by rw [hch,List.length_append,eU,aW]; omega) ae (fun v4 X4 w18 a hB4 hF hA19=>hK _ _ ?_))
   replace hA19:Hp w0 (ZN2::X4::[row b4 52 ca.cells]::[row b1 49 (.int .i64 n::dc ch)]::R) w18:=hA19
   replace hB4:Buf 5 1 X4 v4 ((nameB ca.typ++be 8 (u64 n))++ch).length (dc ((nameB ca.typ++be 8 (u64 n))++ch)):=by rw [List.length_append,bK]; exact hB4
   refine vR hF<|vX O<|vV O (aT O Qr O O) fun a hF=>?_
   refine ax O (fun K hK=>ay hF O ae FQ rfl rfl ?_)
   with_reducible refine (jm (l1.length:Int) 2 2 _ O ae hA19).mono ?_
   rintro e' w20 ⟨vN4,ZN4,rfl,hN4,hA21⟩
   refine ⟨_,rfl,fun a hF=>hK _ _ ?_⟩
   replace hA21:Hp w0 (ZN4::ZN2::X4::[row b4 52 ca.cells]::[row b1 49 (.int .i64 n::dc ch)]::R) w20:=hA21
   obtain ⟨_,AN4,cN4,rfl,hcN4,hRN4⟩:=hN4.rd (w0:=w0) (R:=[ZN4]) (Qx ..)
   refine ax O (fun K hK=>bM hF O ae rfl hA21 2 O hB4 Qv cZ rfl rfl (Rc.src hRN4 (Hq.sub hA21.q (List.cons_subset.2 ⟨((Qx ..)),List.nil_subset _⟩)) Qv) (by rw [List.length_append,List.length_append,hch,eU,aW,aW]; omega) ae (fun v5 X5 w22 a hB5 hF hA23=>hK _ _ ?_))
   replace hA23:Hp w0 (ZN4::ZN2::X5::[row b4 52 ca.cells]::[row b1 49 (.int .i64 n::dc ch)]::R) w22:=hA23
   replace hB5:Buf 5 1 X5 v5 ((nameB ca.typ++be 8 (u64 n)++ch)++be 2 (u64 (l1.length:Int))).length (dc ((nameB ca.typ++be 8 (u64 n)++ch)++be 2 (u64 (l1.length:Int)))):=by rw [List.length_append,bK]; exact hB5
   refine vR hF<|vX O<|vE hK8<|wQ fun K9 hK9=>wT fun K10 hK10=>vX O<|vE hK10<|wBk fun a hF=>?_
   rw [o9 (show l1.length<140737488353900 by omega)] at hB5
   obtain ⟨m1,hm1e⟩:∃ m1,m1=nameB ca.typ++be 8 (u64 n)++ch++be 2 l1.length:=⟨_,rfl⟩
   rw [← hm1e] at hB5
   have hn1:m1.length≤108:=by rw [hm1e,List.length_append,List.length_append,List.length_append,eU,aW,aW,hch]; omega
   have hA24:Hp w0 (X5::[row b4 52 ca.cells]::R) w22:=hpS 5 [2,3] [0,1,4] hA23 rfl
   refine bG (G:=Nat) (fun i a x=>∃ (vL:Value) (XL:Seg),i≤l1.length∧dU (vs.take i)=0∧Buf 5 1 XL vL (m1++(vs.take i).flatMap Val.put).length (dc (m1++(vs.take i).flatMap Val.put))∧Fr 131 [(13,.int .i64 (i:Int)),(12,vL),(2,.slice A1 l1.length c1),(3,.slice A2 l2.length c2),(4,.slice A3 l3.length c3),(6,.pointer (some ⟨b4,0,none⟩))] a∧Hp w0 (XL::[row b4 52 ca.cells]::R) x) (fun i=>l1.length-i) 0 (⟨_,_,Qs _,rfl,(by rw [List.take_zero,List.flatMap_nil,List.append_nil]; exact hB5),hF.keep [13,12,2,3,4,6] rfl,hA24⟩) ?_
   clear hF
   rintro i a w26 ⟨vL,XL,hi,hfr,hB6,hF,hA25⟩
   apply wp_seq_k; intro K11 hK11
   refine wS hF fun K12 hK12=>vX O<|vX O<|vV O (aT O Qr O O)<|vV O (aJ O O O O O)<|vE hK12 fun a hF=>?_
   have hpl:((vs.take i).flatMap Val.put).length≤4202688:=by
    have q1:=kS (iH hfr)
    rw [List.length_take] at q1
    omega
   by_cases hlt:i<l1.length
   ·refine aG hF O (dA ag) ?_
    obtain ⟨q,hpq⟩:∃ q,l1[i]? = some q:=⟨_,List.getElem?_eq_getElem hlt⟩
    obtain ⟨bq,oq,hsq,hcq⟩:=h1.ne (i:=i) (by rw [List.length_map]; exact hlt)
    rw [hsq] at hF
    apply wp_skip
    refine hK11 _ _ ?_
    apply wp_seq_k; intro K13 hK13
    apply wp_block
    apply wp_seq_k; intro K14 hK14
    refine aU 11 [5,6,11] [0,1,2,3,4,5,6,7,8,9,10,11] _ af af (Hq.drew hA25.q) ?_
    have hA27:=Hl.drew hA25
    refine pR hF<|pV O O (fun x hx=>cO (new:=ca.cells) rfl hx O 1 O GY (by rw [dY h32]; exact Qw _) (by rw [List.drop_zero]; exact Qz (by rw [dY h32]; exact Qw _))) fun a hF=>?_
    refine pR hF<|pX O O<|pX O O<|pW O O (fun _=>bV O Qr xq O O i rfl hlt (ad2 _ _ _))<|pV O O (fun x hx=>dN (u:=ak q) rfl (Hq.sub hx (List.Subset.trans hG (bJ (bJ (dD))))) O hcq i (by rw [List.length_map]; exact hlt) rfl (by rw [List.getElem?_map,hpq]; rfl) xM) fun a hF=>?_
    refine gG O O O (fun K hK=>ay hF O ae FO rfl rfl ?_)
    with_reducible refine (GK ca q _ hC (List.Subset.trans hG (bJ (bJ (dD)))) hA27).mono ?_
    rintro e' w28 ⟨va,rfl,hva,hvo,hA29⟩
    refine ⟨_,rfl,fun a hF=>hK _ _ (fun _=>?_) ?_⟩
    ·exact hA29.q
    replace hA29:Hp w0 (XL::[row b4 52 ca.cells]::R) w28:=hA29
    have hvi:vs[i]? = some va.v:=by rw [hvs,List.getElem?_map,hpq,hva]; rfl
    refine gG O O O (fun K hK=>ay hF O ae Jg rfl rfl ?_)
    with_reducible refine (G5 va _ hvo (List.Subset.trans hG (bJ (bJ (dD)))) hA29).mono ?_
    rintro e' w30 ⟨vv9,ZV,rfl,hZV,hA31⟩
    refine ⟨_,rfl,fun a hF=>hK _ _ (fun _=>?_) ?_⟩
    ·exact (qT hA31)
    replace hA31:Hp w0 (ZV::XL::[row b4 52 ca.cells]::R) w30:=hA31
    obtain ⟨_,AV,cV,rfl,hcV,hRV⟩:=hZV.rd (w0:=w0) (R:=[ZV]) (Qx ..)
    refine pR hF<|pX O O<|pW O O (fun _=>aS (v:= .slice AV va.v.put.length cV) rfl rfl rfl)<|pW O O (fun _=>aS (v:= .int .i64 ((va.v.right:Nat):Int)) O O O)<|pX O O fun a hF=>?_
    refine gu hF O O O O ae _ (jW O O) (fun h=>absurd h ae) (fun a hF=>?_)
    refine bP ?_
    refine hK14 _ _ ?_
    apply wp_seq_k; intro K15 hK15
    refine wS hF fun K16 hK16=>vX O<|vV O (aJ O O O O O)<|vE hK16 fun a hF=>?_
    by_cases hr0:va.v.right=0
    ·refine au hF O (fK ag) ?_
     have hpl2:=xE hr0
     apply wp_skip
     refine hK15 _ _ ?_
     refine wp_region_lit ?_
     refine vR hF<|vX O<|vX O fun a hF=>?_
     refine ax O (fun K hK=>bM hF O ae rfl hA31 1 O hB6 Qv cZ rfl rfl (Rc.src hRV (Hq.sub hA31.q (List.cons_subset.2 ⟨((Qx ..)),List.nil_subset _⟩)) Qv) (by rw [List.length_append]; omega) ae (fun v7 X7 w32 a hB7 hF hA33=>hK _ _ ?_))
     replace hA33:Hp w0 (ZV::X7::[row b4 52 ca.cells]::R) w32:=hA33
     replace hB7:Buf 5 1 X7 v7 ((m1++(vs.take i).flatMap Val.put)++va.v.put).length (dc ((m1++(vs.take i).flatMap Val.put)++va.v.put)):=by rw [List.length_append,bK]; exact hB7
     refine vR hF<|vX O fun a hF=>aK<|hK13 _ _ ?_
     refine wp_region_lit ?_
     refine vR hF<|vX O<|vV O (bH O O O (Qu _ ag))<|vX O fun a hF=>?_
     refine aK ?_
     rw [← hsq] at hF
     have hA34:Hp w0 (X7::[row b4 52 ca.cells]::R) w32:=hpS 3 [1,2] [0] hA33 rfl
     exact ⟨i+1,ag,_,_,ag,rE hfr hvi hr0,by rw [vP hvi,← List.append_assoc]; exact hB7,hF.keep [13,12,2,3,4,6] rfl,hA34⟩
    ·refine aG hF O (iW ag) ?_
     refine wS hF fun K17 hK17=>vX O<|vX O<|vX O<|vE hK17 fun a hF=>?_
     apply wp_ret
     simp only [Exit.then,Exit.inBlock]
     refine gp hF Tryz.results56 O O ?_
     have hA35:Hp w0 (R) w30:=hpS 3 [] [0,1,2] hA31 rfl
     have e0:stE ca.typ vs l1.length l2.length l3.length=va.v.right:=e1.trans (wP hfr hvi hr0)
     rw [e0]
     exact ⟨_,[],rfl,by rw [oN (by rw [← hvs,e0]; exact hr0)]; exact Buf.nil _ _,Hp.nil hA35⟩
   ·refine au hF O (dm ag) ?_
    obtain rfl:i=l1.length:=by omega
    rw [← hvl,List.take_length] at hfr hB6
    clear hpl
    have hpl:(vs.flatMap Val.put).length≤4202688:=by
     have q1:=kS (iH hfr)
     omega
    obtain ⟨m2,hm2⟩:∃ m2,m2=m1++vs.flatMap Val.put:=⟨_,rfl⟩
    rw [← hm2] at hB6
    have hn2:m2.length≤4202796:=by rw [hm2,List.length_append]; omega
    apply wp_exit
    refine hK9 _ _ ?_
    refine wS hF fun K18 hK18=>vX O<|vX O<|vV O (aT O Qr O O) fun a hF=>?_
    refine ax O (fun K hK=>ay hF O ae FQ rfl rfl ?_)
    with_reducible refine (jm (l2.length:Int) 2 2 _ O ae hA25).mono ?_
    rintro e' w36 ⟨vN6,ZN6,rfl,hN6,hA37⟩
    refine ⟨_,rfl,fun a hF=>hK _ _ ?_⟩
    replace hA37:Hp w0 (ZN6::XL::[row b4 52 ca.cells]::R) w36:=hA37
    obtain ⟨_,AN6,cN6,rfl,hcN6,hRN6⟩:=hN6.rd (w0:=w0) (R:=[ZN6]) (Qx ..)
    refine ax O (fun K hK=>bM hF O ae rfl hA37 1 O hB6 Qv cZ rfl rfl (Rc.src hRN6 (Hq.sub hA37.q (List.cons_subset.2 ⟨((Qx ..)),List.nil_subset _⟩)) Qv) (by rw [aW]; omega) ae (fun v7 X7 w38 a hB7 hF hA39=>hK _ _ ?_))
    replace hA39:Hp w0 (ZN6::X7::[row b4 52 ca.cells]::R) w38:=hA39
    replace hB7:Buf 5 1 X7 v7 (m2++be 2 (u64 (l2.length:Int))).length (dc (m2++be 2 (u64 (l2.length:Int)))):=by rw [List.length_append,bK]; exact hB7
    refine vR hF<|vX O<|vE hK18<|wQ fun K19 hK19=>wT fun K20 hK20=>vX O<|vE hK20<|wBk fun a hF=>?_
    rw [o9 (show l2.length<140737488353900 by omega)] at hB7
    obtain ⟨m3,hm3⟩:∃ m3,m3=m2++be 2 l2.length:=⟨_,rfl⟩
    rw [← hm3] at hB7
    have hn3:m3.length≤4202798:=by rw [hm3,List.length_append,aW]; omega
    have hA40:Hp w0 (X7::[row b4 52 ca.cells]::R) w38:=hpS 3 [1,2] [0] hA39 rfl
    refine bG (G:=Nat) (fun i a x=>∃ (vL:Value) (XL:Seg),i≤l2.length∧Buf 5 1 XL vL (m3++(lf.take i).flatMap (be 1)).length (dc (m3++(lf.take i).flatMap (be 1)))∧Fr 131 [(16,.int .i64 (i:Int)),(12,vL),(3,.slice A2 l2.length c2),(4,.slice A3 l3.length c3),(6,.pointer (some ⟨b4,0,none⟩))] a∧Hp w0 (XL::[row b4 52 ca.cells]::R) x) (fun i=>l2.length-i) 0 (⟨_,_,Qs _,(by rw [List.take_zero,List.flatMap_nil,List.append_nil]; exact hB7),hF.keep [16,12,3,4,6] rfl,hA40⟩) ?_
    clear hF
    rintro i a w42 ⟨vL,XL,hi,hB8,hF,hA41⟩
    apply wp_seq_k; intro K21 hK21
    refine wS hF fun K22 hK22=>vX O<|vX O<|vV O (aT O Qr O O)<|vV O (aJ O O O O O)<|vE hK22 fun a hF=>?_
    have hpl2:((lf.take i).flatMap (be 1)).length≤64:=by rw [mG (k:=1) (fun x=>aW 1 x),List.length_take]; omega
    by_cases hlt:i<l2.length
    ·refine aG hF O (dA ag) ?_
     obtain ⟨q,hpq⟩:∃ q,l2[i]? = some q:=⟨_,List.getElem?_eq_getElem hlt⟩
     obtain ⟨bq,oq,hsq,hcq⟩:=h2.ne (i:=i) (by rw [List.length_map]; exact hlt)
     rw [hsq] at hF
     have hvi:lf[i]? = some (mX ca.opn ca.clo q):=by rw [hlf,List.getElem?_map,hpq]; rfl
     apply wp_skip
     refine hK21 _ _ ?_
     apply wp_seq_k; intro K23 hK23
     apply wp_block
     apply wp_seq_k; intro K24 hK24
     refine aU 6 [6] [0,1,2,3,4,5,6] _ af af (Hq.drew hA41.q) ?_
     have hA43:=Hl.drew hA41
     refine pR hF<|pW O O (fun _=>yf 36 rfl QL O nU O)<|pV O O (fun x hx=>aX (u:= .slice ca.oA ca.opn.length ca.oC) rfl hx O 1 O (fB h32 1) nZ)<|pX O O<|pX O O<|pW O O (fun _=>bV O Qr xq O O i rfl hlt (ad2 _ _ _))<|pV O O (fun x hx=>dN (u:=ak q) rfl (Hq.sub hx (List.Subset.trans hG (bJ (bJ (dD))))) O hcq i (by rw [List.length_map]; exact hlt) rfl (by rw [List.getElem?_map,hpq]; rfl) xM) fun a hF=>?_
     refine gG O O O (fun K hK=>ay hF O ae qU rfl rfl ?_)
     with_reducible refine (GI ca.oA ca.opn ca.oC q _ hC.opr (List.Subset.trans hG (bJ (bJ (dD)))) hC.opl hA43).mono ?_
     rintro e' w44 ⟨rfl,hA45⟩
     refine ⟨_,rfl,fun a hF=>hK _ _ (fun h=>absurd h ae) ?_⟩
     replace hA45:Hp w0 (XL::[row b4 52 ca.cells]::R) w44:=hA45
     refine bP ?_
     refine hK24 _ _ ?_
     by_cases m1_:q∈ca.opn
     ·refine aG hF O (decide_eq_true m1_) ?_
      refine wp_region_lit ?_
      refine vR hF<|vX O fun a hF=>?_
      refine ax O (fun K hK=>iG hF O ae rfl hA45 (1:UInt8) rfl iE (fun b46 w47 a hb46 hF hA48=>hK _ _ ?_))
      replace hA48:Hp w0 ([row b46 5 (dc [(1:UInt8)])]::XL::[row b4 52 ca.cells]::R) w47:=hA48
      refine ax O (fun K hK=>bM hF O ae rfl hA48 1 O hB8 Qv cZ rfl rfl (Rc.src (l:=[(1:UInt8)]) (Rc.ofRow (R:=[row b46 5 (dc [(1:UInt8)])]::XL::[row b4 52 ca.cells]::R) (i:=0) (off:=0) rfl rfl) hA48.q Qv) (by rw [List.length_append,show [(1:UInt8)].length=1 from rfl]; omega) ae (fun v9 X9 w49 a hB9 hF hA50=>hK _ _ ?_))
      replace hA50:Hp w0 ([row b46 5 (dc [(1:UInt8)])]::X9::[row b4 52 ca.cells]::R) w49:=hA50
      replace hB9:Buf 5 1 X9 v9 ((m3++(lf.take i).flatMap (be 1))++[(1:UInt8)]).length (dc ((m3++(lf.take i).flatMap (be 1))++[(1:UInt8)])):=by rw [List.length_append,bK]; exact hB9
      refine vR hF<|vX O fun a hF=>aK<|hK23 _ _ ?_
      refine wp_region_lit ?_
      refine vR hF<|vX O<|vV O (bH O O O (Qu _ ag))<|vX O fun a hF=>?_
      refine aK ?_
      rw [← hsq] at hF
      rw [show mX ca.opn ca.clo q=1 from if_pos m1_] at hvi
      have hA51:Hp w0 (X9::[row b4 52 ca.cells]::R) w49:=hpS 3 [1,2] [0] hA50 rfl
      exact ⟨i+1,ag,_,_,ag,by rw [og hvi,show be 1 1=[(1:UInt8)] from rfl,← List.append_assoc]; exact hB9,hF.keep [16,12,3,4,6] rfl,hA51⟩
     ·refine au hF O (decide_eq_false m1_) ?_
      apply wp_seq_k; intro K25 hK25
      refine aU 6 [6] [0,1,2,3,4,5,6] _ af af (Hq.drew hA45.q) ?_
      have hA52:=Hl.drew hA45
      refine pR hF<|pW O O (fun _=>yf 37 rfl QL O nU O)<|pV O O (fun x hx=>aX (u:= .slice ca.cA ca.clo.length ca.cC) rfl hx O 1 O (fB h32 2) nZ)<|pX O O<|pX O O<|pW O O (fun _=>bV O Qr xq O O i rfl hlt (ad2 _ _ _))<|pV O O (fun x hx=>dN (u:=ak q) rfl (Hq.sub hx (List.Subset.trans hG (bJ (bJ (dD))))) O hcq i (by rw [List.length_map]; exact hlt) rfl (by rw [List.getElem?_map,hpq]; rfl) xM) fun a hF=>?_
      refine gG O O O (fun K hK=>ay hF O ae qU rfl rfl ?_)
      with_reducible refine (GI ca.cA ca.clo ca.cC q _ hC.clr (List.Subset.trans hG (bJ (bJ (dD)))) hC.cll hA52).mono ?_
      rintro e' w53 ⟨rfl,hA54⟩
      refine ⟨_,rfl,fun a hF=>hK _ _ (fun h=>absurd h ae) ?_⟩
      replace hA54:Hp w0 (XL::[row b4 52 ca.cells]::R) w53:=hA54
      refine bP ?_
      refine hK25 _ _ ?_
      by_cases m2_:q∈ca.clo
      ·refine aG hF O (decide_eq_true m2_) ?_
       refine wp_region_lit ?_
       refine vR hF<|vX O fun a hF=>?_
       refine ax O (fun K hK=>iG hF O ae rfl hA54 (2:UInt8) rfl iE (fun b55 w56 a hb55 hF hA57=>hK _ _ ?_))
       replace hA57:Hp w0 ([row b55 5 (dc [(2:UInt8)])]::XL::[row b4 52 ca.cells]::R) w56:=hA57
       refine ax O (fun K hK=>bM hF O ae rfl hA57 1 O hB8 Qv cZ rfl rfl (Rc.src (l:=[(2:UInt8)]) (Rc.ofRow (R:=[row b55 5 (dc [(2:UInt8)])]::XL::[row b4 52 ca.cells]::R) (i:=0) (off:=0) rfl rfl) hA57.q Qv) (by rw [List.length_append,show [(2:UInt8)].length=1 from rfl]; omega) ae (fun v9 X9 w58 a hB9 hF hA59=>hK _ _ ?_))
       replace hA59:Hp w0 ([row b55 5 (dc [(2:UInt8)])]::X9::[row b4 52 ca.cells]::R) w58:=hA59
       replace hB9:Buf 5 1 X9 v9 ((m3++(lf.take i).flatMap (be 1))++[(2:UInt8)]).length (dc ((m3++(lf.take i).flatMap (be 1))++[(2:UInt8)])):=by rw [List.length_append,bK]; exact hB9
       refine vR hF<|vX O fun a hF=>aK<|hK23 _ _ ?_
       refine wp_region_lit ?_
       refine vR hF<|vX O<|vV O (bH O O O (Qu _ ag))<|vX O fun a hF=>?_
       refine aK ?_
       rw [← hsq] at hF
       rw [show mX ca.opn ca.clo q=2 from (if_neg m1_).trans (if_pos m2_)] at hvi
       have hA60:Hp w0 (X9::[row b4 52 ca.cells]::R) w58:=hpS 3 [1,2] [0] hA59 rfl
       exact ⟨i+1,ag,_,_,ag,by rw [og hvi,show be 1 2=[(2:UInt8)] from rfl,← List.append_assoc]; exact hB9,hF.keep [16,12,3,4,6] rfl,hA60⟩
      ·refine au hF O (decide_eq_false m2_) ?_
       refine wp_region_lit ?_
       refine vR hF<|vX O fun a hF=>?_
       refine ax O (fun K hK=>iG hF O ae rfl hA54 (0:UInt8) rfl iE (fun b61 w62 a hb61 hF hA63=>hK _ _ ?_))
       replace hA63:Hp w0 ([row b61 5 (dc [(0:UInt8)])]::XL::[row b4 52 ca.cells]::R) w62:=hA63
       refine ax O (fun K hK=>bM hF O ae rfl hA63 1 O hB8 Qv cZ rfl rfl (Rc.src (l:=[(0:UInt8)]) (Rc.ofRow (R:=[row b61 5 (dc [(0:UInt8)])]::XL::[row b4 52 ca.cells]::R) (i:=0) (off:=0) rfl rfl) hA63.q Qv) (by rw [List.length_append,show [(0:UInt8)].length=1 from rfl]; omega) ae (fun v9 X9 w64 a hB9 hF hA65=>hK _ _ ?_))
       replace hA65:Hp w0 ([row b61 5 (dc [(0:UInt8)])]::X9::[row b4 52 ca.cells]::R) w64:=hA65
       replace hB9:Buf 5 1 X9 v9 ((m3++(lf.take i).flatMap (be 1))++[(0:UInt8)]).length (dc ((m3++(lf.take i).flatMap (be 1))++[(0:UInt8)])):=by rw [List.length_append,bK]; exact hB9
       refine vR hF<|vX O fun a hF=>aK<|hK23 _ _ ?_
       refine wp_region_lit ?_
       refine vR hF<|vX O<|vV O (bH O O O (Qu _ ag))<|vX O fun a hF=>?_
       refine aK ?_
       rw [← hsq] at hF
       rw [show mX ca.opn ca.clo q=0 from (if_neg m1_).trans (if_neg m2_)] at hvi
       have hA66:Hp w0 (X9::[row b4 52 ca.cells]::R) w64:=hpS 3 [1,2] [0] hA65 rfl
       exact ⟨i+1,ag,_,_,ag,by rw [og hvi,show be 1 0=[(0:UInt8)] from rfl,← List.append_assoc]; exact hB9,hF.keep [16,12,3,4,6] rfl,hA66⟩
    ·refine au hF O (dm ag) ?_
     obtain rfl:i=l2.length:=by omega
     rw [← hll,List.take_length] at hB8
     clear hpl2
     have hpl2:(lf.flatMap (be 1)).length≤64:=by rw [mG (k:=1) (fun x=>aW 1 x)]; omega
     obtain ⟨m4,hm4⟩:∃ m4,m4=m3++lf.flatMap (be 1):=⟨_,rfl⟩
     rw [← hm4] at hB8
     have hn4:m4.length≤4202862:=by rw [hm4,List.length_append]; omega
     apply wp_exit
     refine hK19 _ _ ?_
     refine wS hF fun K26 hK26=>vX O<|vX O<|vV O (aT O Qr O O) fun a hF=>?_
     refine ax O (fun K hK=>ay hF O ae FQ rfl rfl ?_)
     with_reducible refine (jm (l3.length:Int) 2 2 _ O ae hA41).mono ?_
     rintro e' w67 ⟨vN8,ZN8,rfl,hN8,hA68⟩
     refine ⟨_,rfl,fun a hF=>hK _ _ ?_⟩
     replace hA68:Hp w0 (ZN8::XL::[row b4 52 ca.cells]::R) w67:=hA68
     obtain ⟨_,AN8,cN8,rfl,hcN8,hRN8⟩:=hN8.rd (w0:=w0) (R:=[ZN8]) (Qx ..)
     refine ax O (fun K hK=>bM hF O ae rfl hA68 1 O hB8 Qv cZ rfl rfl (Rc.src hRN8 (Hq.sub hA68.q (List.cons_subset.2 ⟨((Qx ..)),List.nil_subset _⟩)) Qv) (by rw [aW]; omega) ae (fun v9 X9 w69 a hB9 hF hA70=>hK _ _ ?_))
     replace hA70:Hp w0 (ZN8::X9::[row b4 52 ca.cells]::R) w69:=hA70
     replace hB9:Buf 5 1 X9 v9 (m4++be 2 (u64 (l3.length:Int))).length (dc (m4++be 2 (u64 (l3.length:Int)))):=by rw [List.length_append,bK]; exact hB9
     refine vR hF<|vX O<|vE hK26<|wQ fun K27 hK27=>wT fun K28 hK28=>vX O<|vE hK28<|wBk fun a hF=>?_
     rw [o9 (show l3.length<140737488353900 by omega)] at hB9
     obtain ⟨m5,hm5⟩:∃ m5,m5=m4++be 2 l3.length:=⟨_,rfl⟩
     rw [← hm5] at hB9
     have hn5:m5.length≤4202864:=by rw [hm5,List.length_append,aW]; omega
     have hA71:Hp w0 (X9::[row b4 52 ca.cells]::R) w69:=hpS 3 [1,2] [0] hA70 rfl
     refine bG (G:=Nat) (fun i a x=>∃ (vL:Value) (XL:Seg),i≤l3.length∧Buf 5 1 XL vL (m5++(mk.take i).flatMap jJ).length (dc (m5++(mk.take i).flatMap jJ))∧Fr 131 [(17,.int .i64 (i:Int)),(12,vL),(4,.slice A3 l3.length c3),(6,.pointer (some ⟨b4,0,none⟩))] a∧Hp w0 (XL::[row b4 52 ca.cells]::R) x) (fun i=>l3.length-i) 0 (⟨_,_,Qs _,(by rw [List.take_zero,List.flatMap_nil,List.append_nil]; exact hB9),hF.keep [17,12,4,6] rfl,hA71⟩) ?_
     clear hF
     rintro i a w73 ⟨vL,XL,hi,hB10,hF,hA72⟩
     apply wp_seq_k; intro K29 hK29
     refine wS hF fun K30 hK30=>vX O<|vX O<|vV O (aT O Qr O O)<|vV O (aJ O O O O O)<|vE hK30 fun a hF=>?_
     have hpl3:((mk.take i).flatMap jJ).length≤64:=by rw [mG (k:=1) (fun _=>rfl),List.length_take]; omega
     by_cases hlt:i<l3.length
     ·refine aG hF O (dA ag) ?_
      obtain ⟨q,hpq⟩:∃ q,l3[i]? = some q:=⟨_,List.getElem?_eq_getElem hlt⟩
      obtain ⟨bq,oq,hsq,hcq⟩:=h3.ne (i:=i) (by rw [List.length_map]; exact hlt)
      rw [hsq] at hF
      have hvi:mk[i]? = some (decide (q∈ca.rea)):=by rw [hmk,List.getElem?_map,hpq]; rfl
      apply wp_skip
      refine hK29 _ _ ?_
      apply wp_seq_k; intro K31 hK31
      apply wp_block
      apply wp_seq_k; intro K32 hK32
      refine aU 6 [6] [0,1,2,3,4,5,6] _ af af (Hq.drew hA72.q) ?_
      have hA74:=Hl.drew hA72
      refine pR hF<|pW O O (fun _=>yf 38 rfl QL O nU O)<|pV O O (fun x hx=>aX (u:= .slice ca.rA ca.rea.length ca.rC) rfl hx O 1 O (fB h32 3) nZ)<|pX O O<|pX O O<|pW O O (fun _=>bV O Qr xq O O i rfl hlt (ad2 _ _ _))<|pV O O (fun x hx=>dN (u:=ak q) rfl (Hq.sub hx (List.Subset.trans hG (bJ (bJ (dD))))) O hcq i (by rw [List.length_map]; exact hlt) rfl (by rw [List.getElem?_map,hpq]; rfl) xM) fun a hF=>?_
      refine gG O O O (fun K hK=>ay hF O ae qU rfl rfl ?_)
      with_reducible refine (GI ca.rA ca.rea ca.rC q _ hC.rer (List.Subset.trans hG (bJ (bJ (dD)))) hC.rel hA74).mono ?_
      rintro e' w75 ⟨rfl,hA76⟩
      refine ⟨_,rfl,fun a hF=>hK _ _ (fun h=>absurd h ae) ?_⟩
      replace hA76:Hp w0 (XL::[row b4 52 ca.cells]::R) w75:=hA76
      refine bP ?_
      refine hK32 _ _ ?_
      by_cases m1_:q∈ca.rea
      ·refine aG hF O (decide_eq_true m1_) ?_
       refine wp_region_lit ?_
       refine vR hF<|vX O fun a hF=>?_
       refine ax O (fun K hK=>iG hF O ae rfl hA76 (1:UInt8) rfl iE (fun b77 w78 a hb77 hF hA79=>hK _ _ ?_))
       replace hA79:Hp w0 ([row b77 5 (dc [(1:UInt8)])]::XL::[row b4 52 ca.cells]::R) w78:=hA79
       refine ax O (fun K hK=>bM hF O ae rfl hA79 1 O hB10 Qv cZ rfl rfl (Rc.src (l:=[(1:UInt8)]) (Rc.ofRow (R:=[row b77 5 (dc [(1:UInt8)])]::XL::[row b4 52 ca.cells]::R) (i:=0) (off:=0) rfl rfl) hA79.q Qv) (by rw [List.length_append,show [(1:UInt8)].length=1 from rfl]; omega) ae (fun v11 X11 w80 a hB11 hF hA81=>hK _ _ ?_))
       replace hA81:Hp w0 ([row b77 5 (dc [(1:UInt8)])]::X11::[row b4 52 ca.cells]::R) w80:=hA81
       replace hB11:Buf 5 1 X11 v11 ((m5++(mk.take i).flatMap jJ)++[(1:UInt8)]).length (dc ((m5++(mk.take i).flatMap jJ)++[(1:UInt8)])):=by rw [List.length_append,bK]; exact hB11
       refine vR hF<|vX O fun a hF=>aK<|hK31 _ _ ?_
       refine wp_region_lit ?_
       refine vR hF<|vX O<|vV O (bH O O O (Qu _ ag))<|vX O fun a hF=>?_
       refine aK ?_
       rw [← hsq] at hF
       rw [decide_eq_true m1_] at hvi
       have hA82:Hp w0 (X11::[row b4 52 ca.cells]::R) w80:=hpS 3 [1,2] [0] hA81 rfl
       exact ⟨i+1,ag,_,_,ag,by rw [xP hvi,show jJ true=[(1:UInt8)] from rfl,← List.append_assoc]; exact hB11,hF.keep [17,12,4,6] rfl,hA82⟩
      ·refine au hF O (decide_eq_false m1_) ?_
       refine wp_region_lit ?_
       refine vR hF<|vX O fun a hF=>?_
       refine ax O (fun K hK=>iG hF O ae rfl hA76 (0:UInt8) rfl iE (fun b83 w84 a hb83 hF hA85=>hK _ _ ?_))
       replace hA85:Hp w0 ([row b83 5 (dc [(0:UInt8)])]::XL::[row b4 52 ca.cells]::R) w84:=hA85
       refine ax O (fun K hK=>bM hF O ae rfl hA85 1 O hB10 Qv cZ rfl rfl (Rc.src (l:=[(0:UInt8)]) (Rc.ofRow (R:=[row b83 5 (dc [(0:UInt8)])]::XL::[row b4 52 ca.cells]::R) (i:=0) (off:=0) rfl rfl) hA85.q Qv) (by rw [List.length_append,show [(0:UInt8)].length=1 from rfl]; omega) ae (fun v11 X11 w86 a hB11 hF hA87=>hK _ _ ?_))
       replace hA87:Hp w0 ([row b83 5 (dc [(0:UInt8)])]::X11::[row b4 52 ca.cells]::R) w86:=hA87
       replace hB11:Buf 5 1 X11 v11 ((m5++(mk.take i).flatMap jJ)++[(0:UInt8)]).length (dc ((m5++(mk.take i).flatMap jJ)++[(0:UInt8)])):=by rw [List.length_append,bK]; exact hB11
       refine vR hF<|vX O fun a hF=>aK<|hK31 _ _ ?_
       refine wp_region_lit ?_
       refine vR hF<|vX O<|vV O (bH O O O (Qu _ ag))<|vX O fun a hF=>?_
       refine aK ?_
       rw [← hsq] at hF
       rw [decide_eq_false m1_] at hvi
       have hA88:Hp w0 (X11::[row b4 52 ca.cells]::R) w86:=hpS 3 [1,2] [0] hA87 rfl
       exact ⟨i+1,ag,_,_,ag,by rw [xP hvi,show jJ false=[(0:UInt8)] from rfl,← List.append_assoc]; exact hB11,hF.keep [17,12,4,6] rfl,hA88⟩
     ·refine au hF O (dm ag) ?_
      obtain rfl:i=l3.length:=by omega
      rw [← hml,List.take_length] at hB10
      apply wp_exit
      refine hK27 _ _ ?_
      refine wS hF fun K33 hK33=>vX O<|vX O<|vX O<|vE hK33 fun a hF=>?_
      apply wp_ret
      refine gp hF Tryz.results56 O O ?_
      have hA89:Hp w0 (XL::R) w73:=hpS 2 [0] [1] hA72 rfl
      have e0:stE ca.typ vs l1.length l2.length l3.length=0:=e1.trans hfr
      rw [e0]
      refine ⟨_,XL,rfl,?_,hA89⟩
      rw [A8 (by rw [← hvs,e0]),← hvs,← hlf,← hmk]
      rw [show stB ca.typ n ch vs lf mk=m5++mk.flatMap jJ by rw [hm5,hm4,hm3,hm2,hm1e,← hvl,← hll,← hml]; rfl]
      exact hB10
  ·refine aG hF O hm ?_
   refine wS hF fun K34 hK34=>vX O<|vX O<|vE hK34 fun a hF=>?_
   apply wp_ret
   simp only [Exit.then]
   refine gp hF Tryz.results56 O O ?_
   have hA90:Hp w0 (R) w5:=hpS 2 [] [0,1] hA6 rfl
   have e0:stE ca.typ vs l1.length l2.length l3.length=7:=(if_neg (by rw [hl]; decide)).trans (if_pos (Ox hm))
   rw [e0]
   exact ⟨_,[],rfl,by rw [oN (by rw [← hvs,e0]; decide)]; exact Buf.nil _ _,Hp.nil hA90⟩
end Go.Proofs.YtepbmdlgdaedpaaGreatDoor
