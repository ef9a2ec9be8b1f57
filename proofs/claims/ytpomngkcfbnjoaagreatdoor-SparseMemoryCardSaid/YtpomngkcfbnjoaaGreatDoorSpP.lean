/- SparseMemory: one call played. -/
import Derived.Test.YtpomngkcfbnjoaaGreatDoorSpO
import Derived.Test.YtpomngkcfbnjoaaGreatDoorSpI
import Derived.Test.YtpomngkcfbnjoaaGreatDoorSp1
import Derived.Test.YtpomngkcfbnjoaaGreatDoorLawTwice
import Derived.Test.YtpomngkcfbnjoaaGreatDoorLawNumbers
import Derived.Test.YtpomngkcfbnjoaaGreatDoorSp5
import Derived.Test.YtpomngkcfbnjoaaGreatDoorKc
/- SparseMemory: one call played. -/
set_option maxRecDepth 100000
set_option maxHeartbeats 2000000
namespace Go.Proofs.YtpomngkcfbnjoaaGreatDoor
open Go.RowKit Go.Dk
structure CX where
 kd:Int
 wd:Int
 it:Itm
 root:List UInt8
 p:Prf
 l:List Itm
structure CX.OK (c:CX):Prop where
 it:c.it.OK
 root:c.root.length=32
 p:c.p.OK
 l:∀ i∈c.l,i.OK
def CX.cells (c:CX) (sv lv:Value):List Value:= .int .i64 c.kd:: .int .i64 c.wd::(dc c.it.k++(dc c.root++(c.it.ent++(c.p.cells sv++[lv]))))
section
variable {c:CX} {sv lv:Value}
theorem CX.l1 (h:c.OK):(dc c.it.k).length=32:=by rw [aj,h.it.k]
theorem CX.l2 (h:c.OK):(dc c.root).length=32:=by rw [aj,h.root]
theorem CX.l3 (h:c.OK):c.it.ent.length=33:=by unfold Itm.ent; rw [List.length_cons,aj,h.it.ch]
theorem CX.len (h:c.OK):(c.cells sv lv).length=167:=by
 unfold CX.cells
 rw [List.length_cons,List.length_cons,List.length_append,List.length_append,List.length_append,List.length_append,CX.l1 h,CX.l2 h,CX.l3 h,Prf.c_len h.p]
 rfl
theorem CX.c_k (h:c.OK):((c.cells sv lv).drop 2).take 32=dc c.it.k:=by
 show (dc c.it.k++_).take 32=_
 exact List.take_left' (CX.l1 h)
theorem CX.c_root (h:c.OK):((c.cells sv lv).drop 34).take 32=dc c.root:=by
 show ((dc c.it.k++(dc c.root++_)).drop 32).take 32=_
 rw [List.drop_left' (CX.l1 h),List.take_left' (CX.l2 h)]
theorem CX.c_ent (h:c.OK):((c.cells sv lv).drop 66).take 33= .int .i64 c.it.ct::dc c.it.ch:=by
 show ((dc c.it.k++(dc c.root++(c.it.ent++_))).drop (32+32)).take 33=c.it.ent
 rw [← List.drop_drop,List.drop_left' (CX.l1 h),List.drop_left' (CX.l2 h),List.take_left' (CX.l3 h)]
theorem CX.c_p (h:c.OK):((c.cells sv lv).drop 99).take 67=c.p.cells sv:=by
 show ((dc c.it.k++(dc c.root++(c.it.ent++(c.p.cells sv++[lv])))).drop (32+(32+33))).take 67=c.p.cells sv
 rw [← List.drop_drop,List.drop_left' (CX.l1 h),← List.drop_drop,List.drop_left' (CX.l2 h),List.drop_left' (CX.l3 h),List.take_left' (Prf.c_len h.p)]
theorem CX.le (h:c.OK) {n m:Nat} (hn:n+m≤167):n+m≤(c.cells sv lv).length:=by rw [CX.len h]; exact hn
end
def WorldS (w0:World) (wb:Nat) (Y:Seg):Prop :=
 ∃ (L:List Itm) (top sl iv l1 w1 l2 w2:Value) (held1 held2:Int) (ks1:List (KeptX (List UInt8))) (ks2:List (KeptX UInt8)) (XT XL Y1 Y2:Seg),L.length≤24∧TV w0 [XT] L top sl∧Buf 49 65 XL iv L.length (cel Itm.cells L)∧BookV dc 28 25 32 ks1 l1 w1 Y1∧BookV cB 70 5 1 ks2 l2 w2 Y2∧Y=row wb 45 [top,sl,iv,l1,w1,.int .i64 held1,.bool false,l2,w2,.int .i64 held2,.bool false]::(XT++(XL++(Y1++Y2)))
theorem WorldS.mk {w0 w:World} {R:List Seg} {wb:Nat} {L:List Itm} {top sl iv l1 w1 l2 w2:Value} {held1 held2:Int} {ks1:List (KeptX (List UInt8))} {ks2:List (KeptX UInt8)} {XT XL Y1 Y2:Seg} (hl:L.length≤24) (hT:TV w0 [XT] L top sl) (hB:Buf 49 65 XL iv L.length (cel Itm.cells L)) (h1:BookV dc 28 25 32 ks1 l1 w1 Y1) (h2:BookV cB 70 5 1 ks2 l2 w2 Y2)
  (hA:Hp w0 ([row wb 45 [top,sl,iv,l1,w1,.int .i64 held1,.bool false,l2,w2,.int .i64 held2,.bool false]]::XT::XL::Y1::Y2::R) w):∃ Y,WorldS w0 wb Y∧Hp w0 (Y::R) w :=
 ⟨_,⟨L,top,sl,iv,l1,w1,l2,w2,held1,held2,ks1,ks2,XT,XL,Y1,Y2,hl,hT,hB,h1,h2,rfl⟩,hA.cast (by simp)⟩
theorem WorldS.split {w0 w:World} {R:List Seg} {r:Dk.Item} {XT XL Y1 Y2:Seg} (hA:Hp w0 ((r::(XT++(XL++(Y1++Y2))))::R) w):Hp w0 ([r]::XT::XL::Y1::Y2::R) w:=hA.cast (by simp)
theorem kV {w0:World} {G:List Seg} {L:List Itm} {top sl:Value} (h:TV w0 G L top sl):∀ v∈([top,sl]:List Value),v.oneCell'=true:=fun v hv=>by
 simp only [List.mem_cons,List.not_mem_nil,or_false] at hv
 rcases hv with rfl | rfl
 ·exact h.one.1
 ·exact h.one.2
theorem OC {w0:World} {X Y:Seg} {L:List Itm} {top sl:Value} (h:TV w0 [X,Y] L top sl):TV w0 [X++Y] L top sl:=h.monoF (fun r hr=>by simpa using hr)
def uP (i:Itm):Int:=if okC i=true then 0 else 8
theorem Ko (w0 w:World) (R G:List Seg) (hG:G⊆R) (L:List Itm) (top sl:Value) (h:TV w0 G L top sl) (hsz:L.length≤100000) (i:Itm) (hi:i.OK) (hT:Tab w0) (hA:Hp w0 R w):Calls Tryz.prog 30 #[.agg ([top,sl]:List Value).toArray,.agg (dc i.k).toArray,.agg (.int .i64 i.ct::dc i.ch).toArray] w fun e w'=>∃ top2 sl2 X,e= .returned (.tuple #[.agg ([top2,sl2]:List Value).toArray,.int .i64 (uP i)])∧((∀ v∈([top2,sl2]:List Value),v.oneCell'=true)∧(okC i=true→TV w0 (X::G) (insL i L) top2 sl2))∧Hp w0 (X::R) w':=by
 by_cases hc:okC i=true
 ·refine (OM w0 w R G hG L top sl h hsz i hi hc hT hA).mono ?_
  rintro e w' ⟨t2,s2,X,rfl,hTV,hA2⟩
  exact ⟨t2,s2,X,by unfold uP; rw [if_pos hc],⟨kV hTV,fun _=>hTV⟩,hA2⟩
 ·refine (KR w0 w R top sl i hi (fun h=>hc (decide_eq_true h)) hA).mono ?_
  rintro e w' ⟨rfl,hA2⟩
  exact ⟨_,_,[],by unfold uP; rw [if_neg hc],⟨(fun v hv=>by simp only [List.mem_cons,List.not_mem_nil,or_false] at hv; rcases hv with rfl | rfl <;> rfl),fun h=>absurd h hc⟩,hA2.cast (by simp)⟩
def Ai (i:Itm) (L:List Itm):List Itm:=if okC i=true then insL i L else []
theorem OB (w0 w:World) (R G:List Seg) (hG:G⊆R) (A:Option Addr) (l:List Itm) (c:Nat) (hlc:l.length≤c) (hcm:l.length≤100000) (hI:∀ i∈l,i.OK) (hL:Rc w0 G A (cel Itm.cells l)) (it:Itm) (hx:it.OK) (hA:Hp w0 R w):Calls Tryz.prog 31 #[.slice A l.length c,.agg (dc it.k).toArray,.agg (.int .i64 it.ct::dc it.ch).toArray] w fun e w'=>∃ v X,e= .returned (.tuple #[v,.int .i64 (uP it)])∧Buf 49 65 X v (Ai it l).length (cel Itm.cells (Ai it l))∧Hp w0 (X::R) w' :=
 Lj w0 w R G hG A l c hlc hcm hI hL it hx hA
theorem GH {n:Nat} (h:n≤73):n≤9223372036854775807∧(n+n/4+192)*1≤281474976710656:=⟨ ag,ag⟩
theorem zF {α:Type} {C:α→List Value} {se e:TypeId} {sz:Nat} {ks:List (KeptX α)} {lv wv:Value} {Y:Seg} (h:BookV C se e sz ks lv wv Y):bf ks⊆Y:=by
 obtain ⟨_,XL,XW,_,_,_,rfl⟩:=h
 exact fun r hr=>TE _ (TE _ hr)
theorem LV {X Y:Seg} (h:X⊆Y):[X].flatten⊆[Y].flatten:=by simpa using h
theorem Hm (t:TxX) (ts:List TxX):txS (t::ts)=t.X++txS ts:=by simp [txS]
theorem JU:(Tryz.prog.info? 40).map (·.size)=some 4:=af
theorem JR:(Tryz.prog.info? 43).map (·.size)=some 4:=af
theorem Pz:aG Tryz.prog 9:=⟨_,Tryz.func9,af,af⟩
theorem DV:aG Tryz.prog 17:=⟨_,Tryz.func17,af,af⟩
theorem NE:aG Tryz.prog 18:=⟨_,Tryz.func18,af,af⟩
theorem ND:aG Tryz.prog 19:=⟨_,Tryz.func19,af,af⟩
theorem NC:aG Tryz.prog 20:=⟨_,Tryz.func20,af,af⟩
theorem Nz:aG Tryz.prog 21:=⟨_,Tryz.func21,af,af⟩
theorem Ny:aG Tryz.prog 23:=⟨_,Tryz.func23,af,af⟩
theorem Nw:aG Tryz.prog 24:=⟨_,Tryz.func24,af,af⟩
theorem xW:aG Tryz.prog 25:=⟨_,Tryz.func25,af,af⟩
theorem DU:aG Tryz.prog 26:=⟨_,Tryz.func26,af,af⟩
theorem Nv:aG Tryz.prog 27:=⟨_,Tryz.func27,af,af⟩
theorem Nu:aG Tryz.prog 28:=⟨_,Tryz.func28,af,af⟩
theorem Ns:aG Tryz.prog 29:=⟨_,Tryz.func29,af,af⟩
theorem DT:aG Tryz.prog 30:=⟨_,Tryz.func30,af,af⟩
theorem Nr:aG Tryz.prog 32:=⟨_,Tryz.func32,af,af⟩
theorem Np:aG Tryz.prog 33:=⟨_,Tryz.func33,af,af⟩
theorem Nl:aG Tryz.prog 34:=⟨_,Tryz.func34,af,af⟩
theorem Ky (w0 w:World) (R G:List Seg) (hG:G⊆R) (wb:Nat) (c:CX) (sv lv:Value) (SA IA:Option Addr) (sc ic:Nat) (Y:Seg) (hc:c.OK) (hk:¬ c.kd=1∧¬ c.kd=2∧¬ c.kd=3∧¬ c.kd=4∧¬ c.kd=5) (hsv:sv.oneCell'=true) (hT:Tab w0) (hY:WorldS w0 wb Y) (hl24:c.l.length≤24) (hsc:c.p.ss.length≤sc) (hic:c.l.length≤ic) (hS:Rc w0 G SA (fF c.p.ss)) (hI:Rc w0 G IA (cel Itm.cells c.l)) (hA:Hp w0 (Y::R) w):Calls Tryz.prog 7 #[.pointer (some ⟨wb,0,none⟩),.agg (c.cells sv lv).toArray,.slice SA c.p.ss.length sc,.slice IA c.l.length ic] w fun e w'=>∃ Y',e= .returned (.bool true)∧WorldS w0 wb Y'∧Hp w0 (Y'::R) w':=by
 obtain ⟨L,top,sl,iv,lA,wA,lB,wB,held1,held2,ks1,ks2,XT,XL,Y1,Y2,hL24,hTV,hB,hbA,hbB,rfl⟩:=hY
 replace hA:=WorldS.split hA
 have tv0:=kV hTV
 have hLok:=hTV.ok
 obtain ⟨LA,lc,rfl,hlc,hRL⟩:=hB.rc (w0:=w0) (R:=[XL]) (TF ..)
 refine aJ Tryz.func7 O Tryz.ntmps7 ai (fun a hF=>?_)
 refine wp_seq_k fun K1 hK1=>wp_region_lit ?_
 refine au O (fun K hK=>bC (cs:=c.cells sv lv) hF O ae rfl hA O (fun b1 w2 a hb1 hF hA3=>hK _ _ ?_))
 refine vR hF<|vX O<|vE hK1<|wQ fun K2 hK2=>wT fun K3 hK3=>vV O (yf 0 O TU O QY O)<|vV O (aX O hA3.q O 0 O O Bq)<|vE hK3<|wBk<|wT fun K4 hK4=>vV O (aH O O O O (fJ ag))<|vX O<|vE hK4<|vF1 O<|wT fun K5 hK5=>vV O (aH O O O O (fJ ag))<|vX O<|vE hK5<|vF1 O<|wT fun K6 hK6=>vV O (aH O O O O (fJ ag))<|vX O<|vE hK6<|vF1 O<|wT fun K7 hK7=>vV O (aH O O O O (fJ ag))<|vX O<|vE hK7<|vF1 O<|wT fun K8 hK8=>vV O (aH O O O O (fJ ag))<|vX O<|vE hK8<|vF1 O fun a hF=>?_
 apply wp_skip
 refine hK2 _ _ ?_
 refine wS hF fun K9 hK9=>vX O<|vE hK9 fun a hF=>?_
 apply wp_ret
 refine aO hF Tryz.results7 O ?_
 have hA4:Hp w0 ([row wb 45 [top,sl,.slice LA L.length lc,lA,wA,.int .i64 held1,.bool false,lB,wB,.int .i64 held2,.bool false]]::XT::XL::Y1::Y2::R) w2:=hpS 6 [1,2,3,4,5] [0] hA3 rfl
 obtain ⟨Y9,hY9,hA9⟩:=WorldS.mk hL24 hTV hB hbA hbB hA4
 exact ⟨Y9,rfl,hY9,hA9⟩
theorem Kw (w0 w:World) (R G:List Seg) (hG:G⊆R) (wb:Nat) (c:CX) (sv lv:Value) (SA IA:Option Addr) (sc ic:Nat) (Y:Seg) (hc:c.OK) (hk:c.kd=1) (hsv:sv.oneCell'=true) (hT:Tab w0) (hY:WorldS w0 wb Y) (hl24:c.l.length≤24) (hsc:c.p.ss.length≤sc) (hic:c.l.length≤ic) (hS:Rc w0 G SA (fF c.p.ss)) (hI:Rc w0 G IA (cel Itm.cells c.l)) (hA:Hp w0 (Y::R) w):Calls Tryz.prog 7 #[.pointer (some ⟨wb,0,none⟩),.agg (c.cells sv lv).toArray,.slice SA c.p.ss.length sc,.slice IA c.l.length ic] w fun e w'=>∃ Y',e= .returned (.bool true)∧WorldS w0 wb Y'∧Hp w0 (Y'::R) w':=by
 obtain ⟨L,top,sl,iv,lA,wA,lB,wB,held1,held2,ks1,ks2,XT,XL,Y1,Y2,hL24,hTV,hB,hbA,hbB,rfl⟩:=hY
 replace hA:=WorldS.split hA
 have tv0:=kV hTV
 have hLok:=hTV.ok
 obtain ⟨LA,lc,rfl,hlc,hRL⟩:=hB.rc (w0:=w0) (R:=[XL]) (TF ..)
 refine aJ Tryz.func7 O Tryz.ntmps7 ai (fun a hF=>?_)
 refine wp_seq_k fun K1 hK1=>wp_region_lit ?_
 refine au O (fun K hK=>bC (cs:=c.cells sv lv) hF O ae rfl hA O (fun b1 w2 a hb1 hF hA3=>hK _ _ ?_))
 refine vR hF<|vX O<|vE hK1<|wQ fun K2 hK2=>wT fun K3 hK3=>vV O (yf 0 O TU O QY O)<|vV O (aX O hA3.q O 0 O O Bq)<|vE hK3<|wBk<|wT fun K4 hK4=>vV O (aH O O O O (gJ ag))<|vX O<|vE hK4<|vT1 O fun a hF=>?_
 have hpp:=vF (width:=c.wd) hLok c.it.k (TG 256)
 have hpf:=hpp.few
 obtain ⟨q,hq⟩:∃ q,q=aV c.wd L c.it.k 256:=⟨_,rfl⟩
 rw [← hq] at hpp hpf
 have hss:∀ x∈q.ss,(dc x).length=32:=fun x hx=>by rw [aj]; exact hpp.ss x hx
 apply wp_seq_k; intro K5 hK5
 have hM:∀ (a:Act) (x:World) (gN:Nat) (sv2:Value) (XP:Seg),Buf 25 32 XP sv2 q.ss.length (fF q.ss)→Fr 239 [(9,.pointer (some ⟨gN,0,none⟩)),(0,.pointer (some ⟨wb,0,none⟩)),(5,.pointer (some ⟨b1,0,none⟩))] a→Hp w0 ([row gN 30 (q.cells sv2)]::XP::[row b1 33 (c.cells sv lv)]::[row wb 45 [top,sl,.slice LA L.length lc,lA,wA,.int .i64 held1,.bool false,lB,wB,.int .i64 held2,.bool false]]::XT::XL::Y1::Y2::R) x→K5 a x:=by
  clear hF
  intro a x gN sv2 XP hSV hF hAm
  obtain ⟨PA,pc,rfl,hpc,hRP0⟩:=hSV.rc (w0:=w0) (R:=[XP]) (TF ..)
  refine hK5 _ _ ?_
  apply wp_seq_k; intro K6 hK6
  refine ak 5 [5] [0,1,2,3,4,5] _ af af (Hq.drew hAm.q) ?_
  have hA4:=Hl.drew hAm
  refine pR hF<|pX O O<|pX O O<|pW O O (fun _=>yf 3 O TY O JU O)<|pW O O (fun _=>yf 66 rfl TW O mZ O)<|pV O O (fun x hx=>aX O hx O 0 O (Prf.c_sums hpp) nz) fun a hF=>?_
  have hA5:Hp w0 (XP::[row wb 45 [top,sl,.slice LA L.length lc,lA,wA,.int .i64 held1,.bool false,lB,wB,.int .i64 held2,.bool false]]::Y1::[row gN 30 (q.cells (.slice PA q.ss.length pc))]::[row b1 33 (c.cells sv lv)]::XT::XL::Y2::R) x.drew:=hpO 8 [1,3,6,0,2,4,5,7] hA4 rfl
  refine bM O O O (fun K hK=>ax hF O ae NE rfl rfl ?_)
  with_reducible refine (qL w0 _ ([row gN 30 (q.cells (.slice PA q.ss.length pc))]::[row b1 33 (c.cells sv lv)]::XT::XL::Y2::R) wb ks1 Y1 XP _ q.ss hbA hSV hss ag ag hA5).mono ?_
  rintro e' w6 ⟨ks1',l1',w1',held1',Y1',DD,rfl,hbA',hXP,_,hA7⟩
  refine ⟨_,rfl,fun a hF=>hK _ _ (fun h=>absurd h ae) ?_⟩
  replace hA7:Hp w0 ([row wb 45 [top,sl,.slice LA L.length lc,l1',w1',.int .i64 held1',.bool false,lB,wB,.int .i64 held2,.bool false]]::Y1'::DD::[row gN 30 (q.cells (.slice PA q.ss.length pc))]::[row b1 33 (c.cells sv lv)]::XT::XL::Y2::R) w6:=hA7
  have hRP:Rc w0 [Y1'] PA (fF q.ss):=hRP0.monoF (LV (List.Subset.trans hXP (zF hbA')))
  refine aB ?_
  refine hK6 _ _ ?_
  apply wp_seq_k; intro K7 hK7
  refine ak 10 [9,10,11] [0,1,2,3,4,5,6,7,8,9,10,11] _ af af (Hq.drew hA7.q) ?_
  have hA8:=Hl.drew hA7
  refine pR hF<|pV O O (fun x hx=>aT O hx O 3 O OL (by rw [Prf.c_len hpp]; decide) (Prf.c_all hpp)) fun a hF=>?_
  refine pR hF<|pW O O (fun _=>yf 1 O TU O QY O)<|pV O O (fun x hx=>aX O hx O 4 O O Bq)<|pX O O<|pX O O<|pW O O (fun _=>yf 2 O TY O JQ O)<|pV O O (fun x hx=>aX O hx O 0 O O xy)<|pW O O (fun _=>yf 2 O TU O uX O)<|pV O O (fun x hx=>aT O hx O 4 O vw (CX.le hc ae) (CX.c_k hc)) fun a hF=>?_
  refine bM O O O (fun K hK=>ax hF O ae NC rfl rfl ?_)
  with_reducible refine (Ll w0 _ ([row wb 45 [top,sl,.slice LA L.length lc,l1',w1',.int .i64 held1',.bool false,lB,wB,.int .i64 held2,.bool false]]::Y1'::DD::[row gN 30 (q.cells (.slice PA q.ss.length pc))]::[row b1 33 (c.cells sv lv)]::XT::XL::Y2::R) [XL] (dZ (TI _ (TI _ (TI _ (TI _ (TI _ (TI _ ((TF ..))))))))) LA L lc hlc ag hLok hRL c.wd c.it.k hc.it.k hA8).mono ?_
  rintro e' w9 ⟨sv3,XQ,rfl,hSQ,hA10⟩
  refine ⟨_,rfl,fun a hF=>hK _ _ (fun _=>?_) ?_⟩
  ·exact (qT hA10)
  replace hA10:Hp w0 (XQ::[row wb 45 [top,sl,.slice LA L.length lc,l1',w1',.int .i64 held1',.bool false,lB,wB,.int .i64 held2,.bool false]]::Y1'::DD::[row gN 30 (q.cells (.slice PA q.ss.length pc))]::[row b1 33 (c.cells sv lv)]::XT::XL::Y2::R) w9:=hA10
  rw [← hq] at hSQ hF
  have hFn:=hF
  obtain ⟨QA,qc,rfl,hqc,hRQ⟩:=hSQ.rc (w0:=w0) (R:=[XQ]) (TF ..)
  have hF:=hFn
  refine bM O O O (fun K hK=>ax hF O ae ND rfl rfl ?_)
  with_reducible refine (yA w0 _ (XQ::[row wb 45 [top,sl,.slice LA L.length lc,l1',w1',.int .i64 held1',.bool false,lB,wB,.int .i64 held2,.bool false]]::Y1'::DD::[row gN 30 (q.cells (.slice PA q.ss.length pc))]::[row b1 33 (c.cells sv lv)]::XT::XL::Y2::R) [Y1'] [XQ] (dZ (TI _ (TI _ ((TF ..))))) (dZ ((TF ..))) q q PA QA pc qc hpp hpp hRP hRQ hA10).mono ?_
  rintro e' w11 ⟨sb,rfl,hsb,hA12⟩
  refine ⟨_,rfl,fun a hF=>hK _ _ (fun h=>absurd h ae) ?_⟩
  replace hA12:Hp w0 (XQ::[row wb 45 [top,sl,.slice LA L.length lc,l1',w1',.int .i64 held1',.bool false,lB,wB,.int .i64 held2,.bool false]]::Y1'::DD::[row gN 30 (q.cells (.slice PA q.ss.length pc))]::[row b1 33 (c.cells sv lv)]::XT::XL::Y2::R) w11:=hA12
  rw [hsb rfl] at hF
  refine bY hF O O O O ae _ (bJ O O) (fun h=>absurd h ae) (fun a hF=>?_)
  refine aB ?_
  refine hK7 _ _ ?_
  apply wp_ret
  simp only [Exit.then,Exit.inBlock]
  refine aO hF Tryz.results7 O ?_
  have hA13:Hp w0 ([row wb 45 [top,sl,.slice LA L.length lc,l1',w1',.int .i64 held1',.bool false,lB,wB,.int .i64 held2,.bool false]]::XT::XL::Y1'::Y2::R) w11:=hpS 9 [1,6,7,2,8] [0,3,4,5] hA12 rfl
  obtain ⟨Y9,hY9,hA9⟩:=WorldS.mk hL24 hTV hB hbA' hbB hA13
  exact ⟨Y9,rfl,hY9,hA9⟩
 refine lU 10 [8,9,10] (.op 0 (.op 1 (.op 2 (.op 3 (.op 4 (.op 5 (.op 6 (.op 7 (.fork 8 9 (.op 9 (.op 10 .done)) (.op 8 (.op 10 .done))))))))))) (fun x=>Hq w0 ([row b1 33 (c.cells sv lv)]::[row wb 45 [top,sl,.slice LA L.length lc,lA,wA,.int .i64 held1,.bool false,lB,wB,.int .i64 held2,.bool false]]::XT::XL::Y1::Y2::R) x) af af (Hq.drew (hA3.q)) ?_
 have hA14:=Hl.drew hA3
 refine lH hF O O O O ae _ (fun x hx=>bT O O) (fun a hF=>?_)
 refine lH hF O O O O ae _ (fun x hx=>bP O O) (fun a hF=>?_)
 refine lH hF O O O O ae _ (fun x hx=>yf 0 O TY O wC O) (fun a hF=>?_)
 refine lH hF O O O O ae _ (fun x hx=>aT (new:=[top,sl]) O hx O 1 O wP ai rfl) (fun a hF=>?_)
 refine lH hF O O O O ae _ (fun x hx=>yf 1 O TU O QY O) (fun a hF=>?_)
 refine lH hF O O O O ae _ (fun x hx=>aX O hx O 0 O O Bq) (fun a hF=>?_)
 refine lH hF O O O O ae _ (fun x hx=>yf 2 O TU O uX O) (fun a hF=>?_)
 refine lH hF O O O O ae _ (fun x hx=>aT O hx O 0 O vw (CX.le hc ae) (CX.c_k hc)) (fun a hF=>?_)
 refine zK O O O O (fun K hK=>?_) (fun K hK=>?_)
 ·refine ax hF O ae DV rfl rfl ?_
  with_reducible refine (BQ w0 _ ([row b1 33 (c.cells sv lv)]::[row wb 45 [top,sl,.slice LA L.length lc,lA,wA,.int .i64 held1,.bool false,lB,wB,.int .i64 held2,.bool false]]::XT::XL::Y1::Y2::R) [XT] (dZ (TI _ (TI _ ((TF ..))))) L top sl hTV c.wd c.it.k hc.it.k hT hA14).mono ?_
  rintro e' w15 ⟨sv2,XP,rfl,hSV,hA16⟩
  refine ⟨_,rfl,fun a hF=>hK _ _ ?_ ?_⟩
  ·exact (qT hA16)
  replace hA16:Hp w0 (XP::[row b1 33 (c.cells sv lv)]::[row wb 45 [top,sl,.slice LA L.length lc,lA,wA,.int .i64 held1,.bool false,lB,wB,.int .i64 held2,.bool false]]::XT::XL::Y1::Y2::R) w15:=hA16
  rw [← hq] at hSV hF
  refine rf O O O (fun K hK=>bG hF O ae rfl hA16 uu (fun b17 w18 a hb17 hF hA19=>hK _ _ (fun _=>?_) ?_))
  ·exact Hp.qp [[row b17 30 (prf0.cells (.slice none 0 0))],XP,[row b1 33 (c.cells sv lv)],[row wb 45 [top,sl,.slice LA L.length lc,lA,wA,.int .i64 held1,.bool false,lB,wB,.int .i64 held2,.bool false]],XT,XL,Y1,Y2] R [2,3,4,5,6,7] hA19
  refine rf O O O (fun K hK=>aI (new:=q.cells sv2) hF O O hA19 O O 0 O (by rw [Prf.c_len hpp,Prf.c_len gU]) (Prf.c_one hSV.one) (by rw [Prf.c_len gU]; exact Bv) (fun w20 hA21=>hK _ _ (fun h=>absurd h ae) ?_))
  replace hA21:Hp w0 ([row b17 30 (q.cells sv2)]::XP::[row b1 33 (c.cells sv lv)]::[row wb 45 [top,sl,.slice LA L.length lc,lA,wA,.int .i64 held1,.bool false,lB,wB,.int .i64 held2,.bool false]]::XT::XL::Y1::Y2::R) w20:=hA21
  refine tY ?_
  exact hM _ _ b17 sv2 XP hSV (hF.keep [9,0,5] rfl) hA21
 ·refine bG hF O ae rfl hA14 uu (fun b22 w23 a hb22 hF hA24=>hK _ _ ?_ ?_)
  ·exact (qT hA24)
  replace hA24:Hp w0 ([row b22 30 (prf0.cells (.slice none 0 0))]::[row b1 33 (c.cells sv lv)]::[row wb 45 [top,sl,.slice LA L.length lc,lA,wA,.int .i64 held1,.bool false,lB,wB,.int .i64 held2,.bool false]]::XT::XL::Y1::Y2::R) w23:=hA24
  refine rf O O O (fun K hK=>ax hF O ae DV rfl rfl ?_)
  with_reducible refine (BQ w0 _ ([row b22 30 (prf0.cells (.slice none 0 0))]::[row b1 33 (c.cells sv lv)]::[row wb 45 [top,sl,.slice LA L.length lc,lA,wA,.int .i64 held1,.bool false,lB,wB,.int .i64 held2,.bool false]]::XT::XL::Y1::Y2::R) [XT] (dZ (TI _ (TI _ (TI _ ((TF ..)))))) L top sl hTV c.wd c.it.k hc.it.k hT hA24).mono ?_
  rintro e' w25 ⟨sv2,XP,rfl,hSV,hA26⟩
  refine ⟨_,rfl,fun a hF=>hK _ _ (fun _=>?_) ?_⟩
  ·exact Hp.qp [XP,[row b22 30 (prf0.cells (.slice none 0 0))],[row b1 33 (c.cells sv lv)],[row wb 45 [top,sl,.slice LA L.length lc,lA,wA,.int .i64 held1,.bool false,lB,wB,.int .i64 held2,.bool false]],XT,XL,Y1,Y2] R [2,3,4,5,6,7] hA26
  replace hA26:Hp w0 (XP::[row b22 30 (prf0.cells (.slice none 0 0))]::[row b1 33 (c.cells sv lv)]::[row wb 45 [top,sl,.slice LA L.length lc,lA,wA,.int .i64 held1,.bool false,lB,wB,.int .i64 held2,.bool false]]::XT::XL::Y1::Y2::R) w25:=hA26
  rw [← hq] at hSV hF
  refine rf O O O (fun K hK=>aI (new:=q.cells sv2) hF O O hA26 O O 1 O (by rw [Prf.c_len hpp,Prf.c_len gU]) (Prf.c_one hSV.one) (by rw [Prf.c_len gU]; exact Bv) (fun w27 hA28=>hK _ _ (fun h=>absurd h ae) ?_))
  replace hA28:Hp w0 (XP::[row b22 30 (q.cells sv2)]::[row b1 33 (c.cells sv lv)]::[row wb 45 [top,sl,.slice LA L.length lc,lA,wA,.int .i64 held1,.bool false,lB,wB,.int .i64 held2,.bool false]]::XT::XL::Y1::Y2::R) w27:=hA28
  refine tY ?_
  have hA29:Hp w0 ([row b22 30 (q.cells sv2)]::XP::[row b1 33 (c.cells sv lv)]::[row wb 45 [top,sl,.slice LA L.length lc,lA,wA,.int .i64 held1,.bool false,lB,wB,.int .i64 held2,.bool false]]::XT::XL::Y1::Y2::R) w27:=hpO 8 [1,0,2,3,4,5,6,7] hA28 rfl
  exact hM _ _ b22 sv2 XP hSV (hF.keep [9,0,5] rfl) hA29
theorem Kv (w0 w:World) (R G:List Seg) (hG:G⊆R) (wb:Nat) (c:CX) (sv lv:Value) (SA IA:Option Addr) (sc ic:Nat) (Y:Seg) (hc:c.OK) (hk:c.kd=2) (hsv:sv.oneCell'=true) (hT:Tab w0) (hY:WorldS w0 wb Y) (hl24:c.l.length≤24) (hsc:c.p.ss.length≤sc) (hic:c.l.length≤ic) (hS:Rc w0 G SA (fF c.p.ss)) (hI:Rc w0 G IA (cel Itm.cells c.l)) (hA:Hp w0 (Y::R) w):Calls Tryz.prog 7 #[.pointer (some ⟨wb,0,none⟩),.agg (c.cells sv lv).toArray,.slice SA c.p.ss.length sc,.slice IA c.l.length ic] w fun e w'=>∃ Y',e= .returned (.bool true)∧WorldS w0 wb Y'∧Hp w0 (Y'::R) w':=by
 obtain ⟨L,top,sl,iv,lA,wA,lB,wB,held1,held2,ks1,ks2,XT,XL,Y1,Y2,hL24,hTV,hB,hbA,hbB,rfl⟩:=hY
 replace hA:=WorldS.split hA
 have tv0:=kV hTV
 have hLok:=hTV.ok
 obtain ⟨LA,lc,rfl,hlc,hRL⟩:=hB.rc (w0:=w0) (R:=[XL]) (TF ..)
 refine aJ Tryz.func7 O Tryz.ntmps7 ai (fun a hF=>?_)
 refine wp_seq_k fun K1 hK1=>wp_region_lit ?_
 refine au O (fun K hK=>bC (cs:=c.cells sv lv) hF O ae rfl hA O (fun b1 w2 a hb1 hF hA3=>hK _ _ ?_))
 refine vR hF<|vX O<|vE hK1<|wQ fun K2 hK2=>wT fun K3 hK3=>vV O (yf 0 O TU O QY O)<|vV O (aX O hA3.q O 0 O O Bq)<|vE hK3<|wBk<|wT fun K4 hK4=>vV O (aH O O O O (fJ ag))<|vX O<|vE hK4<|vF1 O<|wT fun K5 hK5=>vV O (aH O O O O (gJ ag))<|vX O<|vE hK5<|vT1 O fun a hF=>?_
 have hdt:(dc (c.p.to c.wd c.it.k)).length=32:=by rw [aj,c.p.to_length]
 have hdr:(dc c.root).length=32:=CX.l2 hc
 refine wS hF fun K6 hK6=>vV O (yf 99 rfl TU O Bv O)<|vV O (aT O hA3.q O 0 O OL (CX.le hc ae) (CX.c_p hc)) fun a hF=>?_
 refine au O (fun K hK=>bG hF O ae rfl hA3 (NY) (fun b4 w5 a hb4 hF hA6=>hK _ _ ?_))
 refine au O (fun K hK=>aI (new:=c.p.cells sv) hF O O hA6 O O 0 O (by rw [Prf.c_len hc.p]; rfl) (Prf.c_one hsv) Bv (fun w7 hA8=>hK _ _ ?_))
 replace hA8:Hp w0 ([row b4 30 (c.p.cells sv)]::[row b1 33 (c.cells sv lv)]::[row wb 45 [top,sl,.slice LA L.length lc,lA,wA,.int .i64 held1,.bool false,lB,wB,.int .i64 held2,.bool false]]::XT::XL::Y1::Y2::R) w7:=hA8
 refine az<|hK6 _ _ ?_
 refine wS hF fun K7 hK7=>vX O<|vV O (yf 66 rfl TW O mZ O) fun a hF=>?_
 refine au O (fun K hK=>aW hF O O hA8 O O 0 O (by rw [Prf.c_len hc.p]; decide) rfl mZ (fun w9 hA10=>hK _ _ ?_))
 replace hA10:Hp w0 ([row b4 30 ((c.p.cells sv).set 66 (.slice SA c.p.ss.length sc))]::[row b1 33 (c.cells sv lv)]::[row wb 45 [top,sl,.slice LA L.length lc,lA,wA,.int .i64 held1,.bool false,lB,wB,.int .i64 held2,.bool false]]::XT::XL::Y1::Y2::R) w9:=hA10
 have hA11:Hp w0 ([row b4 30 (c.p.cells (.slice SA c.p.ss.length sc))]::[row b1 33 (c.cells sv lv)]::[row wb 45 [top,sl,.slice LA L.length lc,lA,wA,.int .i64 held1,.bool false,lB,wB,.int .i64 held2,.bool false]]::XT::XL::Y1::Y2::R) w9:=by rw [← Prf.c_set hc.p (sv:=sv)]; exact hA10
 refine az<|hK7 _ _ ?_
 refine wS hF fun K8 hK8=>vV O (yf 1 O TU O QY O)<|vV O (aX O hA11.q O 1 O O Bq)<|vV O (yf 2 O TU O uX O)<|vV O (aT O hA11.q O 1 O vw (CX.le hc ae) (CX.c_k hc))<|vV O (aT O hA11.q O 0 O OL (by rw [Prf.c_len hc.p]; decide) (Prf.c_all hc.p)) fun a hF=>?_
 refine au O (fun K hK=>ax hF O ae Nz rfl rfl ?_)
 with_reducible refine (J7 w0 _ ([row b4 30 (c.p.cells (.slice SA c.p.ss.length sc))]::[row b1 33 (c.cells sv lv)]::[row wb 45 [top,sl,.slice LA L.length lc,lA,wA,.int .i64 held1,.bool false,lB,wB,.int .i64 held2,.bool false]]::XT::XL::Y1::Y2::R) G (List.Subset.trans hG (aA (aA (aA (aA (aA (aA (aA (bu))))))))) c.p SA sc c.wd c.it.k hc.p hc.it.k hT hS hA11).mono ?_
 rintro e' w12 ⟨ts1,tv1,XL1,rfl,hT1,hA13⟩
 refine ⟨_,rfl,fun a hF=>hK _ _ ?_⟩
 replace hA13:Hp w0 (XL1::(txS ts1)::[row b4 30 (c.p.cells (.slice SA c.p.ss.length sc))]::[row b1 33 (c.cells sv lv)]::[row wb 45 [top,sl,.slice LA L.length lc,lA,wA,.int .i64 held1,.bool false,lB,wB,.int .i64 held2,.bool false]]::XT::XL::Y1::Y2::R) w12:=hA13
 refine vR hF<|vX O<|vV O (cu (v:=tv1) rfl rfl rfl)<|vV O (cu (v:= .int .i64 ((c.p.err c.wd:Nat):Int)) O O O)<|vX O<|vX O<|vE hK8<|wT fun K9 hK9=>vV O (yf 1 O TU O QY O)<|vV O (aX O hA13.q O 3 O O Bq)<|vV O (yf 2 O TU O uX O)<|vV O (aT O hA13.q O 3 O vw (CX.le hc ae) (CX.c_k hc))<|vV O (aT O hA13.q O 2 O OL (by rw [Prf.c_len hc.p]; decide) (Prf.c_all hc.p)) fun a hF=>?_
 refine au O (fun K hK=>ax hF O ae Qe rfl rfl ?_)
 with_reducible refine (yT w0 _ (XL1::(txS ts1)::[row b4 30 (c.p.cells (.slice SA c.p.ss.length sc))]::[row b1 33 (c.cells sv lv)]::[row wb 45 [top,sl,.slice LA L.length lc,lA,wA,.int .i64 held1,.bool false,lB,wB,.int .i64 held2,.bool false]]::XT::XL::Y1::Y2::R) G (List.Subset.trans hG (aA (aA (aA (aA (aA (aA (aA (aA (aA (bu))))))))))) c.p SA sc c.wd c.it.k hc.p hc.it.k hS hA13).mono ?_
 rintro e' w14 ⟨ts2,tv2,XL2,rfl,hT2,hA15⟩
 refine ⟨_,rfl,fun a hF=>hK _ _ ?_⟩
 refine vR hF<|vX O<|vV O (cu (v:=tv2) rfl rfl rfl)<|vV O (cu (v:= .agg (dc (c.p.to c.wd c.it.k)).toArray) rfl rfl rfl)<|vV O (cu (v:= .int .i64 ((c.p.err c.wd:Nat):Int)) O O O) fun a hF=>?_
 refine au O (fun K hK=>bG hF O ae rfl hA15 (jE) (fun b16 w17 a hb16 hF hA18=>hK _ _ ?_))
 refine vR hF<|vX O fun a hF=>?_
 refine au O (fun K hK=>aI (new:=dc (c.p.to c.wd c.it.k)) hF O O hA18 O O 0 O (by rw [hdt]; rfl) (bz _) uX (fun w19 hA20=>hK _ _ ?_))
 replace hA20:Hp w0 ([row b16 25 (dc (c.p.to c.wd c.it.k))]::XL2::(txS ts2)::XL1::(txS ts1)::[row b4 30 (c.p.cells (.slice SA c.p.ss.length sc))]::[row b1 33 (c.cells sv lv)]::[row wb 45 [top,sl,.slice LA L.length lc,lA,wA,.int .i64 held1,.bool false,lB,wB,.int .i64 held2,.bool false]]::XT::XL::Y1::Y2::R) w19:=hA20
 refine vR hF<|vX O<|vE hK9<|wQ fun K10 hK10=>wT fun K11 hK11=>vX O<|vE hK11<|wBk fun a hF=>?_
 have hFn:=hF
 obtain ⟨pa,ca,rfl,_,hX⟩:=hT1.lst.rc (w0:=w0) (R:=[XL1]) (TF ..)
 obtain ⟨pb,cb,rfl,_,hY2⟩:=hT2.lst.rc (w0:=w0) (R:=[XL2]) (TF ..)
 have hF:=hFn
 clear hFn
 have hee:ts1.map (·.l)=ts2.map (·.l):=hT1.txt.trans hT2.txt.symm
 have htl:∀ t∈ts1,t.l.length≤9223372036854775807:=fun t ht=>by obtain ⟨_,c,_,h1,h2⟩:=(hT1.bufs t ht).cap; omega
 have htn:ts1.length≤9223372036854775807:=by obtain ⟨_,c,_,h1,h2⟩:=hT1.lst.cap; omega
 have ht73:∀ t∈ts1,t.l.length≤73:=fun t ht=>by
  have h1:t.l∈ts1.map (·.l):=List.mem_map_of_mem ht
  rw [hT1.txt] at h1
  split at h1
  ·rename_i he
   obtain ⟨i,hi,e⟩:=List.mem_map.1 h1
   rw [← e]; exact Prf.text_len hc.p (Prf.formed_of he) c.wd hc.it.k (by have:=List.mem_range.1 hi; omega)
  ·cases h1
 have hA21:Hp w0 ([row wb 45 [top,sl,.slice LA L.length lc,lA,wA,.int .i64 held1,.bool false,lB,wB,.int .i64 held2,.bool false]]::Y2::(txS ts1)::[row b16 25 (dc (c.p.to c.wd c.it.k))]::XL2::(txS ts2)::XL1::[row b4 30 (c.p.cells (.slice SA c.p.ss.length sc))]::[row b1 33 (c.cells sv lv)]::XT::XL::Y1::R) w19:=hpO 12 [7,11,4,0,1,2,3,5,6,8,9,10] hA20 af
 have hA22:Hp w0 ([row wb 45 [top,sl,.slice LA L.length lc,lA,wA,.int .i64 held1,.bool false,lB,wB,.int .i64 held2,.bool false]]::Y2::(txS ts1)::([]:Seg)::[row b16 25 (dc (c.p.to c.wd c.it.k))]::XL2::(txS ts2)::XL1::[row b4 30 (c.p.cells (.slice SA c.p.ss.length sc))]::[row b1 33 (c.cells sv lv)]::XT::XL::Y1::R) w19:=Hp.cast hA21 (by simp)
 have hS0:txS ts1=txS (ts1.drop 0):=rfl
 refine bQ (G:=Nat) (fun m a x=>∃ (ks2v:List (KeptX UInt8)) (l2v:Value) (w2v:Value) (h2v:Int) (Y2v:Seg) (DD:Seg),m≤ts1.length∧BookV cB 70 5 1 ks2v l2v w2v Y2v∧(∀ r∈txS (ts1.take m),r∈bf ks2v∨r∈DD)∧Fr 239 [(16,.int .i64 (m:Int)),(0,.pointer (some ⟨wb,0,none⟩)),(5,.pointer (some ⟨b1,0,none⟩)),(10,.pointer (some ⟨b4,0,none⟩)),(11,.slice pa ts1.length ca),(12,.int .i64 ((c.p.err c.wd:Nat):Int)),(13,.slice pb ts2.length cb),(14,.pointer (some ⟨b16,0,none⟩)),(15,.int .i64 ((c.p.err c.wd:Nat):Int))] a∧Hp w0 ([row wb 45 [top,sl,.slice LA L.length lc,lA,wA,.int .i64 held1,.bool false,l2v,w2v,.int .i64 h2v,.bool false]]::Y2v::(txS (ts1.drop m))::DD::[row b16 25 (dc (c.p.to c.wd c.it.k))]::XL2::(txS ts2)::XL1::[row b4 30 (c.p.cells (.slice SA c.p.ss.length sc))]::[row b1 33 (c.cells sv lv)]::XT::XL::Y1::R) x) (fun m=>ts1.length-m) 0 (⟨_,_,_,_,_,_,Tv _,hbB,(fun r hr=>by cases hr),hF.keep [16,0,5,10,11,12,13,14,15] rfl,hA22⟩) ?_
 clear hF
 rintro m a w24 ⟨ks2v,l2v,w2v,h2v,Y2v,DD,hm,hbv,hkp,hF,hA23⟩
 by_cases h1:m<ts1.length
 ·apply wp_seq_k; intro K12 hK12
  refine wS hF fun K13 hK13=>vX O<|vX O<|vV O (aY O TL O O)<|vV O (aH O O O O (dB ag))<|vE hK13<|vT1 O fun a hF=>?_
  obtain ⟨t,ht⟩:∃ t,ts1[m]? = some t:=⟨_,List.getElem?_eq_getElem h1⟩
  have htm:t∈ts1:=List.mem_of_getElem? ht
  have hbt:=hT1.bufs t htm
  have h73:=ht73 t htm
  have hbt2:Buf 5 1 t.X t.v t.l.length (cel cB t.l):=by rw [← FC]; exact hbt
  obtain ⟨bx,qx,hAx,hcx⟩:=hX.ne (i:=m) (by rw [List.length_map]; exact h1)
  have hdr1:ts1.drop m=t::ts1.drop (m+1):=by
   rw [List.drop_eq_getElem_cons h1]
   have:=(List.getElem?_eq_some_iff.1 ht).2
   rw [this]
  have htk1:ts1.take (m+1)=ts1.take m++[t]:=by rw [List.take_add_one,ht]; rfl
  have hA25:Hp w0 ([row wb 45 [top,sl,.slice LA L.length lc,lA,wA,.int .i64 held1,.bool false,l2v,w2v,.int .i64 h2v,.bool false]]::Y2v::t.X::(txS (ts1.drop (m+1)))::DD::[row b16 25 (dc (c.p.to c.wd c.it.k))]::XL2::(txS ts2)::XL1::[row b4 30 (c.p.cells (.slice SA c.p.ss.length sc))]::[row b1 33 (c.cells sv lv)]::XT::XL::Y1::R) w24:=Hp.cast hA23 (by rw [hdr1,Hm]; simp [List.append_assoc])
  apply wp_skip
  refine hK12 _ _ ?_
  apply wp_seq_k; intro K14 hK14
  apply wp_block
  refine ak 7 [7] [0,1,2,3,4,5,6,7] _ af af (Hq.drew hA25.q) ?_
  have hA26:=Hl.drew hA25
  refine pR hF<|pX O O<|pX O O<|pW O O (fun _=>yf 7 O TY O JR O)<|pX O O<|pX O O<|pW O O (fun _=>bi O TL uV (by exact congrArg (fun A=>some (Value.slice A ts1.length ca)) hAx) rfl m rfl h1 rfl) fun a hF=>?_
  refine pR hF<|pV O O (fun x hx=>bD O (Hq.sub hx (dZ (TI _ (TI _ (TI _ (TI _ (TI _ (TI _ (TI _ (TI _ ((TF ..)))))))))))) O hcx m (by rw [List.length_map]; exact h1) ag (by rw [List.getElem?_map,ht]; rfl) SV) fun a hF=>?_
  have hA27:Hp w0 (t.X::[row wb 45 [top,sl,.slice LA L.length lc,lA,wA,.int .i64 held1,.bool false,l2v,w2v,.int .i64 h2v,.bool false]]::Y2v::(txS (ts1.drop (m+1)))::DD::[row b16 25 (dc (c.p.to c.wd c.it.k))]::XL2::(txS ts2)::XL1::[row b4 30 (c.p.cells (.slice SA c.p.ss.length sc))]::[row b1 33 (c.cells sv lv)]::XT::XL::Y1::R) w24.drew:=hpO 14 [2,0,1,3,4,5,6,7,8,9,10,11,12,13] hA26 af
  refine bM O O O (fun K hK=>ax hF O ae Ny rfl rfl ?_)
  with_reducible refine (uk w0 _ ((txS (ts1.drop (m+1)))::DD::[row b16 25 (dc (c.p.to c.wd c.it.k))]::XL2::(txS ts2)::XL1::[row b4 30 (c.p.cells (.slice SA c.p.ss.length sc))]::[row b1 33 (c.cells sv lv)]::XT::XL::Y1::R) wb ks2v Y2v t.X _ t.l hbv hbt2 (fun _ _=>rfl) (GH h73).1 (GH h73).2 hA27).mono ?_
  rintro e' w28 ⟨ks3,l3,w3,held3,Y3,D2,rfl,hb3,hX3,hk3,hA29⟩
  refine ⟨_,rfl,fun a hF=>hK _ _ (fun h=>absurd h ae) ?_⟩
  replace hA29:Hp w0 ([row wb 45 [top,sl,.slice LA L.length lc,lA,wA,.int .i64 held1,.bool false,l3,w3,.int .i64 held3,.bool false]]::Y3::D2::(txS (ts1.drop (m+1)))::DD::[row b16 25 (dc (c.p.to c.wd c.it.k))]::XL2::(txS ts2)::XL1::[row b4 30 (c.p.cells (.slice SA c.p.ss.length sc))]::[row b1 33 (c.cells sv lv)]::XT::XL::Y1::R) w28:=hA29
  refine aB ?_
  refine hK14 _ _ ?_
  refine wp_region_lit ?_
  refine vR hF<|vX O<|vV O (bH O O O (TB _ ag))<|vX O fun a hF=>?_
  refine az ?_
  have hA30:Hp w0 ([row wb 45 [top,sl,.slice LA L.length lc,lA,wA,.int .i64 held1,.bool false,l3,w3,.int .i64 held3,.bool false]]::Y3::(txS (ts1.drop (m+1)))::D2::DD::[row b16 25 (dc (c.p.to c.wd c.it.k))]::XL2::(txS ts2)::XL1::[row b4 30 (c.p.cells (.slice SA c.p.ss.length sc))]::[row b1 33 (c.cells sv lv)]::XT::XL::Y1::R) w28:=hpO 14 [0,1,3,2,4,5,6,7,8,9,10,11,12,13] hA29 af
  have hA31:Hp w0 ([row wb 45 [top,sl,.slice LA L.length lc,lA,wA,.int .i64 held1,.bool false,l3,w3,.int .i64 held3,.bool false]]::Y3::(txS (ts1.drop (m+1)))::(D2++DD)::[row b16 25 (dc (c.p.to c.wd c.it.k))]::XL2::(txS ts2)::XL1::[row b4 30 (c.p.cells (.slice SA c.p.ss.length sc))]::[row b1 33 (c.cells sv lv)]::XT::XL::Y1::R) w28:=Hp.cast hA30 (by simp [List.append_assoc])
  have hkp2:∀ r∈txS (ts1.take (m+1)),r∈bf ks3∨r∈D2++DD:=fun r hr=>by
   rw [htk1] at hr
   rcases List.mem_append.1 (by simpa [txS] using hr:r∈txS (ts1.take m)++t.X) with h | h
   ·rcases hkp r h with h | h
    ·rcases hk3 r h with h | h
     ·exact .inl h
     ·exact .inr (TD _ h)
    ·exact .inr (TE _ h)
   ·exact .inl (hX3 h)
  exact ⟨m+1,(by show ts1.length-(m+1)<ts1.length-m; omega),_,_,_,_,_,_,(by show m+1≤_; omega),hb3,hkp2,hF.keep [16,0,5,10,11,12,13,14,15] rfl,hA31⟩
 ·apply wp_seq_k; intro K15 hK15
  refine wS hF fun K16 hK16=>vX O<|vX O<|vV O (aY O TL O O)<|vV O (aH O O O O (dD ag))<|vE hK16<|vF1 O fun a hF=>?_
  obtain rfl:m=ts1.length:=by omega
  rw [List.take_length] at hkp
  have hYk:=zF hbv
  apply wp_exit
  refine hK10 _ _ ?_
  apply wp_seq_k; intro K17 hK17
  apply wp_seq_k; intro K18 hK18
  have hI1:∀ t∈ts1,JK w0 ([row wb 45 [top,sl,.slice LA L.length lc,lA,wA,.int .i64 held1,.bool false,l2v,w2v,.int .i64 h2v,.bool false]]::Y2v::(txS (ts1.drop ts1.length))::DD::[row b16 25 (dc (c.p.to c.wd c.it.k))]::XL2::(txS ts2)::XL1::[row b4 30 (c.p.cells (.slice SA c.p.ss.length sc))]::[row b1 33 (c.cells sv lv)]::XT::XL::Y1::R) t:=fun t ht=>by
   obtain ⟨A,cc,e,h1⟩:=hT1.oks (w0:=w0) t ht
   refine ⟨A,cc,e,h1.monoF (fun r hr=>?_)⟩
   rw [List.flatten_cons,List.flatten_nil,List.append_nil] at hr
   rcases hkp r (List.mem_flatten.2 ⟨_,List.mem_map_of_mem ht,hr⟩) with h | h
   ·exact List.mem_flatten.2 ⟨Y2v,(TI _ ((TF ..))),hYk h⟩
   ·exact List.mem_flatten.2 ⟨DD,(TI _ (TI _ (TI _ ((TF ..))))),h⟩
  have hI2:∀ t∈ts2,JK w0 ([row wb 45 [top,sl,.slice LA L.length lc,lA,wA,.int .i64 held1,.bool false,l2v,w2v,.int .i64 h2v,.bool false]]::Y2v::(txS (ts1.drop ts1.length))::DD::[row b16 25 (dc (c.p.to c.wd c.it.k))]::XL2::(txS ts2)::XL1::[row b4 30 (c.p.cells (.slice SA c.p.ss.length sc))]::[row b1 33 (c.cells sv lv)]::XT::XL::Y1::R) t:=Ol hT2.oks (TI _ (TI _ (TI _ (TI _ (TI _ (TI _ ((TF ..))))))))
  refine wp_region_lit ?_
  refine vR hF<|vX O<|vX O<|vV O (aH O O O O (jb ag))<|vX O<|vG O (bT O O)<|vG O (bT O O) fun a hF=>?_
  refine lm hF O O O O (fun K hK=>ax hF O ae Nw rfl rfl ?_)
  with_reducible refine (zN w0 _ ([row wb 45 [top,sl,.slice LA L.length lc,lA,wA,.int .i64 held1,.bool false,l2v,w2v,.int .i64 h2v,.bool false]]::Y2v::(txS (ts1.drop ts1.length))::DD::[row b16 25 (dc (c.p.to c.wd c.it.k))]::XL2::(txS ts2)::XL1::[row b4 30 (c.p.cells (.slice SA c.p.ss.length sc))]::[row b1 33 (c.cells sv lv)]::XT::XL::Y1::R) pa pb ts1 ts2 ca cb hI1 hI2 (hX.mono (dZ (TI _ (TI _ (TI _ (TI _ (TI _ (TI _ (TI _ ((TF ..))))))))))) (hY2.mono (dZ (TI _ (TI _ (TI _ (TI _ (TI _ ((TF ..))))))))) hee htl htn hA23).mono ?_
  rintro e' w32 ⟨rfl,hA33⟩
  refine ⟨_,rfl,fun a hF=>hK _ _ ?_⟩
  replace hA33:Hp w0 ([row wb 45 [top,sl,.slice LA L.length lc,lA,wA,.int .i64 held1,.bool false,l2v,w2v,.int .i64 h2v,.bool false]]::Y2v::(txS (ts1.drop ts1.length))::DD::[row b16 25 (dc (c.p.to c.wd c.it.k))]::XL2::(txS ts2)::XL1::[row b4 30 (c.p.cells (.slice SA c.p.ss.length sc))]::[row b1 33 (c.cells sv lv)]::XT::XL::Y1::R) w32:=hA33
  refine vR hF<|vG O (eU O O O)<|vV O (bg O O O)<|vE hK18<|vF1 O<|wKp hK17<|wQ fun K19 hK19 a hF=>?_
  by_cases he:c.p.err c.wd=0
  ·have hck:c.p.check c.wd (c.p.to c.wd c.it.k) c.it.k=0:=Prf.check_ok he (by unfold Prf.to; rw [if_pos he])
   refine ak 31 [7,15,27,31] [0,1,2,3,4,5,6,8,9,10,11,12,13,14,7,15,16,17,18,19,20,21,22,23,24,25,26,27,28,29,30,31] _ af af (Hq.drew hA33.q) ?_
   have hA34:=Hl.drew hA33
   refine pR hF<|pW O O (fun _=>yf 1 O TU O QY O)<|pV O O (fun x hx=>aX O hx O 9 O O Bq)<|pW O O (fun _=>yf 34 rfl TU O uX O)<|pV O O (fun x hx=>aT O hx O 9 O vw (CX.le hc ae) (CX.c_root hc))<|pW O O (fun _=>yf 2 O TU O uX O)<|pV O O (fun x hx=>aT O hx O 9 O vw (CX.le hc ae) (CX.c_k hc))<|pV O O (fun x hx=>aT O hx O 8 O OL (by rw [Prf.c_len hc.p]; decide) (Prf.c_all hc.p)) fun a hF=>?_
   refine pR hF<|pW O O (fun _=>yf 1 O TU O QY O)<|pV O O (fun x hx=>aX O hx O 9 O O Bq)<|pW O O (fun _=>yf 34 rfl TU O uX O)<|pV O O (fun x hx=>aT O hx O 9 O vw (CX.le hc ae) (CX.c_root hc))<|pW O O (fun _=>yf 2 O TU O uX O)<|pV O O (fun x hx=>aT O hx O 9 O vw (CX.le hc ae) (CX.c_k hc))<|pV O O (fun x hx=>aT O hx O 8 O OL (by rw [Prf.c_len hc.p]; decide) (Prf.c_all hc.p)) fun a hF=>?_
   refine bM O O O (fun K hK=>ax hF O ae xW rfl rfl ?_)
   with_reducible refine (wH w0 _ ([row wb 45 [top,sl,.slice LA L.length lc,lA,wA,.int .i64 held1,.bool false,l2v,w2v,.int .i64 h2v,.bool false]]::Y2v::(txS (ts1.drop ts1.length))::DD::[row b16 25 (dc (c.p.to c.wd c.it.k))]::XL2::(txS ts2)::XL1::[row b4 30 (c.p.cells (.slice SA c.p.ss.length sc))]::[row b1 33 (c.cells sv lv)]::XT::XL::Y1::R) G (List.Subset.trans hG (aA (aA (aA (aA (aA (aA (aA (aA (aA (aA (aA (aA (aA (bu))))))))))))))) c.p SA sc c.wd c.root c.it.k hc.p hc.root hc.it.k hT hS hA34).mono ?_
   rintro e' w35 ⟨rfl,hA36⟩
   refine ⟨_,rfl,fun a hF=>hK _ _ (fun _=>?_) ?_⟩
   ·exact hA36.q
   replace hA36:Hp w0 ([row wb 45 [top,sl,.slice LA L.length lc,lA,wA,.int .i64 held1,.bool false,l2v,w2v,.int .i64 h2v,.bool false]]::Y2v::(txS (ts1.drop ts1.length))::DD::[row b16 25 (dc (c.p.to c.wd c.it.k))]::XL2::(txS ts2)::XL1::[row b4 30 (c.p.cells (.slice SA c.p.ss.length sc))]::[row b1 33 (c.cells sv lv)]::XT::XL::Y1::R) w35:=hA36
   refine bM O O O (fun K hK=>ax hF O ae DU rfl rfl ?_)
   with_reducible refine (yU w0 _ ([row wb 45 [top,sl,.slice LA L.length lc,lA,wA,.int .i64 held1,.bool false,l2v,w2v,.int .i64 h2v,.bool false]]::Y2v::(txS (ts1.drop ts1.length))::DD::[row b16 25 (dc (c.p.to c.wd c.it.k))]::XL2::(txS ts2)::XL1::[row b4 30 (c.p.cells (.slice SA c.p.ss.length sc))]::[row b1 33 (c.cells sv lv)]::XT::XL::Y1::R) G (List.Subset.trans hG (aA (aA (aA (aA (aA (aA (aA (aA (aA (aA (aA (aA (aA (bu))))))))))))))) c.p SA sc c.wd c.root c.it.k hc.p hc.root hc.it.k hS hA36).mono ?_
   rintro e' w37 ⟨rfl,hA38⟩
   refine ⟨_,rfl,fun a hF=>hK _ _ (fun _=>?_) ?_⟩
   ·exact hA38.q
   replace hA38:Hp w0 ([row wb 45 [top,sl,.slice LA L.length lc,lA,wA,.int .i64 held1,.bool false,l2v,w2v,.int .i64 h2v,.bool false]]::Y2v::(txS (ts1.drop ts1.length))::DD::[row b16 25 (dc (c.p.to c.wd c.it.k))]::XL2::(txS ts2)::XL1::[row b4 30 (c.p.cells (.slice SA c.p.ss.length sc))]::[row b1 33 (c.cells sv lv)]::XT::XL::Y1::R) w37:=hA38
   refine pR hF<|pW O O (fun _=>aH O O O O (gJ ag))<|pX O O<|pG O O (fun _=>bT O O)<|pG O O (fun _=>aH O O O O (jb ag))<|pG O O (fun _=>bT O O)<|pG O O (fun _=>yf 1 O TU O QY O) fun a hF=>?_
   refine dX hF O O O O O O O ae _ (fun x hx=>aX O hx O 9 O O Bq) (fun a hF=>?_)
   refine dX hF O O O O O O O ae _ (fun x hx=>yZ (new:=dc (c.p.to c.wd c.it.k)) O hx O 4 O vw hdt) (fun a hF=>?_)
   refine pR hF<|pG O O (fun _=>yf 2 O TU O uX O) fun a hF=>?_
   refine dX hF O O O O O O O ae _ (fun x hx=>aT O hx O 9 O vw (CX.le hc ae) (CX.c_k hc)) (fun a hF=>?_)
   refine dX hF O O O O O O O ae _ (fun x hx=>aT O hx O 8 O OL (by rw [Prf.c_len hc.p]; decide) (Prf.c_all hc.p)) (fun a hF=>?_)
   refine lX hF O O O O O O (fun K hK=>ax hF O ae xW rfl rfl ?_)
   with_reducible refine (wH w0 _ ([row wb 45 [top,sl,.slice LA L.length lc,lA,wA,.int .i64 held1,.bool false,l2v,w2v,.int .i64 h2v,.bool false]]::Y2v::(txS (ts1.drop ts1.length))::DD::[row b16 25 (dc (c.p.to c.wd c.it.k))]::XL2::(txS ts2)::XL1::[row b4 30 (c.p.cells (.slice SA c.p.ss.length sc))]::[row b1 33 (c.cells sv lv)]::XT::XL::Y1::R) G (List.Subset.trans hG (aA (aA (aA (aA (aA (aA (aA (aA (aA (aA (aA (aA (aA (bu))))))))))))))) c.p SA sc c.wd (c.p.to c.wd c.it.k) c.it.k hc.p (c.p.to_length c.wd c.it.k) hc.it.k hT hS hA38).mono ?_
   rintro e' w39 ⟨rfl,hA40⟩
   refine ⟨_,rfl,fun a hF=>hK _ _ (fun _=>?_) ?_⟩
   ·exact hA40.q
   replace hA40:Hp w0 ([row wb 45 [top,sl,.slice LA L.length lc,lA,wA,.int .i64 held1,.bool false,l2v,w2v,.int .i64 h2v,.bool false]]::Y2v::(txS (ts1.drop ts1.length))::DD::[row b16 25 (dc (c.p.to c.wd c.it.k))]::XL2::(txS ts2)::XL1::[row b4 30 (c.p.cells (.slice SA c.p.ss.length sc))]::[row b1 33 (c.cells sv lv)]::XT::XL::Y1::R) w39:=hA40
   refine pR hF<|pG O O (fun _=>aH O O O O (gJ ag))<|pG O O (fun _=>bg O O O)<|pW O O (fun _=>bg O O O) fun a hF=>?_
   refine bY hF O O O O ae _ (bJ O O) (fun h=>absurd h ae) (fun a hF=>?_)
   refine aB ?_
   refine hK19 _ _ ?_
   apply wp_ret
   simp only [Exit.then,Exit.inBlock]
   refine aO hF Tryz.results7 O ?_
   have hA41:Hp w0 ([row wb 45 [top,sl,.slice LA L.length lc,lA,wA,.int .i64 held1,.bool false,l2v,w2v,.int .i64 h2v,.bool false]]::XT::XL::Y1::Y2v::R) w39:=hpS 13 [0,10,11,12,1] [2,3,4,5,6,7,8,9] hA40 af
   obtain ⟨Y9,hY9,hA9⟩:=WorldS.mk hL24 hTV hB hbA hbv hA41
   exact ⟨Y9,rfl,hY9,hA9⟩
  ·refine ak 31 [7,15,27,31] [0,1,2,3,4,5,6,8,9,10,11,12,13,14,7,15,16,17,18,19,20,21,22,23,24,25,26,27,28,29,30,31] _ af af (Hq.drew hA33.q) ?_
   have hA42:=Hl.drew hA33
   refine pR hF<|pW O O (fun _=>yf 1 O TU O QY O)<|pV O O (fun x hx=>aX O hx O 9 O O Bq)<|pW O O (fun _=>yf 34 rfl TU O uX O)<|pV O O (fun x hx=>aT O hx O 9 O vw (CX.le hc ae) (CX.c_root hc))<|pW O O (fun _=>yf 2 O TU O uX O)<|pV O O (fun x hx=>aT O hx O 9 O vw (CX.le hc ae) (CX.c_k hc))<|pV O O (fun x hx=>aT O hx O 8 O OL (by rw [Prf.c_len hc.p]; decide) (Prf.c_all hc.p)) fun a hF=>?_
   refine pR hF<|pW O O (fun _=>yf 1 O TU O QY O)<|pV O O (fun x hx=>aX O hx O 9 O O Bq)<|pW O O (fun _=>yf 34 rfl TU O uX O)<|pV O O (fun x hx=>aT O hx O 9 O vw (CX.le hc ae) (CX.c_root hc))<|pW O O (fun _=>yf 2 O TU O uX O)<|pV O O (fun x hx=>aT O hx O 9 O vw (CX.le hc ae) (CX.c_k hc))<|pV O O (fun x hx=>aT O hx O 8 O OL (by rw [Prf.c_len hc.p]; decide) (Prf.c_all hc.p)) fun a hF=>?_
   refine bM O O O (fun K hK=>ax hF O ae xW rfl rfl ?_)
   with_reducible refine (wH w0 _ ([row wb 45 [top,sl,.slice LA L.length lc,lA,wA,.int .i64 held1,.bool false,l2v,w2v,.int .i64 h2v,.bool false]]::Y2v::(txS (ts1.drop ts1.length))::DD::[row b16 25 (dc (c.p.to c.wd c.it.k))]::XL2::(txS ts2)::XL1::[row b4 30 (c.p.cells (.slice SA c.p.ss.length sc))]::[row b1 33 (c.cells sv lv)]::XT::XL::Y1::R) G (List.Subset.trans hG (aA (aA (aA (aA (aA (aA (aA (aA (aA (aA (aA (aA (aA (bu))))))))))))))) c.p SA sc c.wd c.root c.it.k hc.p hc.root hc.it.k hT hS hA42).mono ?_
   rintro e' w43 ⟨rfl,hA44⟩
   refine ⟨_,rfl,fun a hF=>hK _ _ (fun _=>?_) ?_⟩
   ·exact hA44.q
   replace hA44:Hp w0 ([row wb 45 [top,sl,.slice LA L.length lc,lA,wA,.int .i64 held1,.bool false,l2v,w2v,.int .i64 h2v,.bool false]]::Y2v::(txS (ts1.drop ts1.length))::DD::[row b16 25 (dc (c.p.to c.wd c.it.k))]::XL2::(txS ts2)::XL1::[row b4 30 (c.p.cells (.slice SA c.p.ss.length sc))]::[row b1 33 (c.cells sv lv)]::XT::XL::Y1::R) w43:=hA44
   refine bM O O O (fun K hK=>ax hF O ae DU rfl rfl ?_)
   with_reducible refine (yU w0 _ ([row wb 45 [top,sl,.slice LA L.length lc,lA,wA,.int .i64 held1,.bool false,l2v,w2v,.int .i64 h2v,.bool false]]::Y2v::(txS (ts1.drop ts1.length))::DD::[row b16 25 (dc (c.p.to c.wd c.it.k))]::XL2::(txS ts2)::XL1::[row b4 30 (c.p.cells (.slice SA c.p.ss.length sc))]::[row b1 33 (c.cells sv lv)]::XT::XL::Y1::R) G (List.Subset.trans hG (aA (aA (aA (aA (aA (aA (aA (aA (aA (aA (aA (aA (aA (bu))))))))))))))) c.p SA sc c.wd c.root c.it.k hc.p hc.root hc.it.k hS hA44).mono ?_
   rintro e' w45 ⟨rfl,hA46⟩
   refine ⟨_,rfl,fun a hF=>hK _ _ (fun _=>?_) ?_⟩
   ·exact hA46.q
   replace hA46:Hp w0 ([row wb 45 [top,sl,.slice LA L.length lc,lA,wA,.int .i64 held1,.bool false,l2v,w2v,.int .i64 h2v,.bool false]]::Y2v::(txS (ts1.drop ts1.length))::DD::[row b16 25 (dc (c.p.to c.wd c.it.k))]::XL2::(txS ts2)::XL1::[row b4 30 (c.p.cells (.slice SA c.p.ss.length sc))]::[row b1 33 (c.cells sv lv)]::XT::XL::Y1::R) w45:=hA46
   refine pR hF<|pW O O (fun _=>aH O O O O (gJ ag))<|pX O O<|pG O O (fun _=>bT O O)<|pG O O (fun _=>aH O O O O (nS ag))<|pG O O (fun _=>bT O O)<|pS O O<|pS O O<|pS O O<|pS O O<|pS O O<|pS O O fun a hF=>?_
   refine vW hF O O O O O O O O ae (hA46.q) (fun a hF=>?_)
   refine pR hF<|pS O O<|pG O O (fun _=>bg O O O)<|pW O O (fun _=>bg O O O) fun a hF=>?_
   refine bY hF O O O O ae _ (bJ O O) (fun h=>absurd h ae) (fun a hF=>?_)
   refine aB ?_
   refine hK19 _ _ ?_
   apply wp_ret
   simp only [Exit.then,Exit.inBlock]
   refine aO hF Tryz.results7 O ?_
   have hA47:Hp w0 ([row wb 45 [top,sl,.slice LA L.length lc,lA,wA,.int .i64 held1,.bool false,l2v,w2v,.int .i64 h2v,.bool false]]::XT::XL::Y1::Y2v::R) w45:=hpS 13 [0,10,11,12,1] [2,3,4,5,6,7,8,9] hA46 af
   obtain ⟨Y9,hY9,hA9⟩:=WorldS.mk hL24 hTV hB hbA hbv hA47
   exact ⟨Y9,rfl,hY9,hA9⟩
theorem Ku (w0 w:World) (R G:List Seg) (hG:G⊆R) (wb:Nat) (c:CX) (sv lv:Value) (SA IA:Option Addr) (sc ic:Nat) (Y:Seg) (hc:c.OK) (hk:c.kd=3) (hsv:sv.oneCell'=true) (hT:Tab w0) (hY:WorldS w0 wb Y) (hl24:c.l.length≤24) (hsc:c.p.ss.length≤sc) (hic:c.l.length≤ic) (hS:Rc w0 G SA (fF c.p.ss)) (hI:Rc w0 G IA (cel Itm.cells c.l)) (hA:Hp w0 (Y::R) w):Calls Tryz.prog 7 #[.pointer (some ⟨wb,0,none⟩),.agg (c.cells sv lv).toArray,.slice SA c.p.ss.length sc,.slice IA c.l.length ic] w fun e w'=>∃ Y',e= .returned (.bool true)∧WorldS w0 wb Y'∧Hp w0 (Y'::R) w':=by
 obtain ⟨L,top,sl,iv,lA,wA,lB,wB,held1,held2,ks1,ks2,XT,XL,Y1,Y2,hL24,hTV,hB,hbA,hbB,rfl⟩:=hY
 replace hA:=WorldS.split hA
 have tv0:=kV hTV
 have hLok:=hTV.ok
 obtain ⟨LA,lc,rfl,hlc,hRL⟩:=hB.rc (w0:=w0) (R:=[XL]) (TF ..)
 refine aJ Tryz.func7 O Tryz.ntmps7 ai (fun a hF=>?_)
 refine wp_seq_k fun K1 hK1=>wp_region_lit ?_
 refine au O (fun K hK=>bC (cs:=c.cells sv lv) hF O ae rfl hA O (fun b1 w2 a hb1 hF hA3=>hK _ _ ?_))
 refine vR hF<|vX O<|vE hK1<|wQ fun K2 hK2=>wT fun K3 hK3=>vV O (yf 0 O TU O QY O)<|vV O (aX O hA3.q O 0 O O Bq)<|vE hK3<|wBk<|wT fun K4 hK4=>vV O (aH O O O O (fJ ag))<|vX O<|vE hK4<|vF1 O<|wT fun K5 hK5=>vV O (aH O O O O (fJ ag))<|vX O<|vE hK5<|vF1 O<|wT fun K6 hK6=>vV O (aH O O O O (gJ ag))<|vX O<|vE hK6<|vT1 O<|wT fun K7 hK7=>vX O fun a hF=>?_
 refine au O (fun K hK=>ax hF O ae Nv rfl rfl ?_)
 with_reducible refine (KZ w0 _ ([row b1 33 (c.cells sv lv)]::[row wb 45 [top,sl,.slice LA L.length lc,lA,wA,.int .i64 held1,.bool false,lB,wB,.int .i64 held2,.bool false]]::XT::XL::Y1::Y2::R) G (List.Subset.trans hG (aA (aA (aA (aA (aA (aA (bu)))))))) [] IA c.l ic hic ag hc.l hI hT hA3).mono ?_
 rintro e' w4 ⟨top9,sl9,X9,rfl,hTV9,hA5⟩
 refine ⟨_,rfl,fun a hF=>hK _ _ ?_⟩
 replace hA5:Hp w0 (X9::[row b1 33 (c.cells sv lv)]::[row wb 45 [top,sl,.slice LA L.length lc,lA,wA,.int .i64 held1,.bool false,lB,wB,.int .i64 held2,.bool false]]::XT::XL::Y1::Y2::R) w4:=hA5
 have tv9:=kV hTV9
 refine vR hF<|vX O<|vV O (cu (v:= .agg ([top9,sl9]).toArray) rfl rfl rfl)<|vV O (cu (v:= .int .i64 (((jm [] c.l).1:Nat):Int)) O O O) fun a hF=>?_
 refine au O (fun K hK=>bG hF O ae rfl hA5 (vP) (fun b6 w7 a hb6 hF hA8=>hK _ _ ?_))
 refine au O (fun K hK=>aI (new:=[top9,sl9]) hF O O hA8 O O 0 O O tv9 wC (fun w9 hA10=>hK _ _ ?_))
 replace hA10:Hp w0 ([row b6 37 [top9,sl9]]::X9::[row b1 33 (c.cells sv lv)]::[row wb 45 [top,sl,.slice LA L.length lc,lA,wA,.int .i64 held1,.bool false,lB,wB,.int .i64 held2,.bool false]]::XT::XL::Y1::Y2::R) w9:=hA10
 refine vR hF<|vX O<|vE hK7<|wT fun K8 hK8=>vX O fun a hF=>?_
 refine au O (fun K hK=>ax hF O ae Nu rfl rfl ?_)
 with_reducible refine (Lm w0 _ ([row b6 37 [top9,sl9]]::X9::[row b1 33 (c.cells sv lv)]::[row wb 45 [top,sl,.slice LA L.length lc,lA,wA,.int .i64 held1,.bool false,lB,wB,.int .i64 held2,.bool false]]::XT::XL::Y1::Y2::R) G (List.Subset.trans hG (aA (aA (aA (aA (aA (aA (aA (aA (bu)))))))))) IA c.l ic hic ag hc.l hI hA10).mono ?_
 rintro e' w11 ⟨v8,X8,rfl,hB8,hA12⟩
 refine ⟨_,rfl,fun a hF=>hK _ _ ?_⟩
 replace hA12:Hp w0 (X8::[row b6 37 [top9,sl9]]::X9::[row b1 33 (c.cells sv lv)]::[row wb 45 [top,sl,.slice LA L.length lc,lA,wA,.int .i64 held1,.bool false,lB,wB,.int .i64 held2,.bool false]]::XT::XL::Y1::Y2::R) w11:=hA12
 have hFn:=hF
 obtain ⟨A8,c8,rfl,hc8,_⟩:=hB8.rc (w0:=w0) (R:=[X8]) (TF ..)
 have hF:=hFn
 clear hFn
 refine vR hF<|vX O<|vV O (cu (v:= .slice A8 ((jm [] c.l).2.length) c8) rfl rfl rfl)<|vV O (cu (v:= .int .i64 (((jm [] c.l).1:Nat):Int)) O O O)<|vX O<|vX O<|vE hK8<|wQ fun K9 hK9=>wT fun K10 hK10=>vX O<|vX O<|vV O (aH O O O O (jb ag))<|vX O<|vG O (aT (new:=[top9,sl9]) O hA12.q O 1 O wP ai rfl) fun a hF=>?_
 refine lm hF O O O O (fun K hK=>ax hF O ae Ns rfl rfl ?_)
 with_reducible refine (Rl w0 _ (X8::[row b6 37 [top9,sl9]]::X9::[row b1 33 (c.cells sv lv)]::[row wb 45 [top,sl,.slice LA L.length lc,lA,wA,.int .i64 held1,.bool false,lB,wB,.int .i64 held2,.bool false]]::XT::XL::Y1::Y2::R) [X9] (dZ (TI _ (TI _ ((TF ..))))) (jm [] c.l).2 top9 sl9 hTV9 hA12).mono ?_
 rintro e' w13 ⟨rfl,hA14⟩
 refine ⟨_,rfl,fun a hF=>hK _ _ ?_⟩
 replace hA14:Hp w0 (X8::[row b6 37 [top9,sl9]]::X9::[row b1 33 (c.cells sv lv)]::[row wb 45 [top,sl,.slice LA L.length lc,lA,wA,.int .i64 held1,.bool false,lB,wB,.int .i64 held2,.bool false]]::XT::XL::Y1::Y2::R) w13:=hA14
 refine vR hF<|vG O (bT O O)<|vG O (aY O TT O O)<|vG O (aH O O O O (jb ag))<|vV O (bg O O O)<|vE hK10<|vF1 O<|wKp hK9<|wQ fun K11 hK11=>wQ fun K12 hK12 a hF=>?_
 by_cases h0:(jm [] c.l).1=0
 ·have hl9:(jm [] c.l).2.length≤24:=by have:=DZ [] c.l; simp only [List.length_nil] at this; omega
  refine wp_region_lit ?_
  refine vR hF<|vX O<|vV O (aH O O O O (gJ ag))<|vE hK12<|vT1 O<|wT fun K13 hK13=>vX O<|vV O (aT (new:=[top9,sl9]) O hA14.q O 1 O wP ai rfl)<|vX O<|vV O (yf 0 O TY O wC O) fun a hF=>?_
  refine au O (fun K hK=>dE (new:=[top9,sl9]) hF O O hA14 O O 4 O ai tv9 wC (fun w15 hA16=>hK _ _ ?_))
  replace hA16:Hp w0 (X8::[row b6 37 [top9,sl9]]::X9::[row b1 33 (c.cells sv lv)]::[row wb 45 [top9,sl9,.slice LA L.length lc,lA,wA,.int .i64 held1,.bool false,lB,wB,.int .i64 held2,.bool false]]::XT::XL::Y1::Y2::R) w15:=hA16
  refine az<|hK13 _ _ ?_
  refine wp_region_lit ?_
  refine vR hF<|vX O<|vX O<|vX O<|vV O (yf 2 O TY O JQ O) fun a hF=>?_
  refine au O (fun K hK=>aW hF O O hA16 O O 4 O (by simp) rfl JQ (fun w17 hA18=>hK _ _ ?_))
  replace hA18:Hp w0 (X8::[row b6 37 [top9,sl9]]::X9::[row b1 33 (c.cells sv lv)]::[row wb 45 [top9,sl9,.slice A8 ((jm [] c.l).2.length) c8,lA,wA,.int .i64 held1,.bool false,lB,wB,.int .i64 held2,.bool false]]::XT::XL::Y1::Y2::R) w17:=hA18
  refine az<|hK11 _ _ ?_
  refine wS hF fun K14 hK14=>vX O<|vE hK14 fun a hF=>?_
  apply wp_ret
  simp only [Exit.then,Exit.inBlock]
  refine aO hF Tryz.results7 O ?_
  have hA19:Hp w0 ([row wb 45 [top9,sl9,.slice A8 ((jm [] c.l).2.length) c8,lA,wA,.int .i64 held1,.bool false,lB,wB,.int .i64 held2,.bool false]]::X9::X8::Y1::Y2::R) w17:=hpS 9 [4,2,0,7,8] [1,3,5,6] hA18 rfl
  obtain ⟨Y9,hY9,hA9⟩:=WorldS.mk hl9 hTV9 hB8 hbA hbB hA19
  exact ⟨Y9,rfl,hY9,hA9⟩
 ·refine wp_region_lit ?_
  refine vR hF<|vX O<|vV O (aH O O O O (fJ ag))<|vE hK12<|vF1 O<|wKp hK11<|wT fun K15 hK15=>vX O<|vE hK15 fun a hF=>?_
  apply wp_ret
  simp only [Exit.then,Exit.inBlock]
  refine aO hF Tryz.results7 O ?_
  have hA20:Hp w0 ([row wb 45 [top,sl,.slice LA L.length lc,lA,wA,.int .i64 held1,.bool false,lB,wB,.int .i64 held2,.bool false]]::XT::XL::Y1::Y2::R) w13:=hpS 9 [4,5,6,7,8] [0,1,2,3] hA14 rfl
  obtain ⟨Y9,hY9,hA9⟩:=WorldS.mk hL24 hTV hB hbA hbB hA20
  exact ⟨Y9,rfl,hY9,hA9⟩
theorem Kt (w0 w:World) (R G:List Seg) (hG:G⊆R) (wb:Nat) (c:CX) (sv lv:Value) (SA IA:Option Addr) (sc ic:Nat) (Y:Seg) (hc:c.OK) (hk:c.kd=4) (hsv:sv.oneCell'=true) (hT:Tab w0) (hY:WorldS w0 wb Y) (hl24:c.l.length≤24) (hsc:c.p.ss.length≤sc) (hic:c.l.length≤ic) (hS:Rc w0 G SA (fF c.p.ss)) (hI:Rc w0 G IA (cel Itm.cells c.l)) (hA:Hp w0 (Y::R) w):Calls Tryz.prog 7 #[.pointer (some ⟨wb,0,none⟩),.agg (c.cells sv lv).toArray,.slice SA c.p.ss.length sc,.slice IA c.l.length ic] w fun e w'=>∃ Y',e= .returned (.bool true)∧WorldS w0 wb Y'∧Hp w0 (Y'::R) w':=by
 obtain ⟨L,top,sl,iv,lA,wA,lB,wB,held1,held2,ks1,ks2,XT,XL,Y1,Y2,hL24,hTV,hB,hbA,hbB,rfl⟩:=hY
 replace hA:=WorldS.split hA
 have tv0:=kV hTV
 have hLok:=hTV.ok
 obtain ⟨LA,lc,rfl,hlc,hRL⟩:=hB.rc (w0:=w0) (R:=[XL]) (TF ..)
 refine aJ Tryz.func7 O Tryz.ntmps7 ai (fun a hF=>?_)
 refine wp_seq_k fun K1 hK1=>wp_region_lit ?_
 refine au O (fun K hK=>bC (cs:=c.cells sv lv) hF O ae rfl hA O (fun b1 w2 a hb1 hF hA3=>hK _ _ ?_))
 refine vR hF<|vX O<|vE hK1<|wQ fun K2 hK2=>wT fun K3 hK3=>vV O (yf 0 O TU O QY O)<|vV O (aX O hA3.q O 0 O O Bq)<|vE hK3<|wBk<|wT fun K4 hK4=>vV O (aH O O O O (fJ ag))<|vX O<|vE hK4<|vF1 O<|wT fun K5 hK5=>vV O (aH O O O O (fJ ag))<|vX O<|vE hK5<|vF1 O<|wT fun K6 hK6=>vV O (aH O O O O (fJ ag))<|vX O<|vE hK6<|vF1 O<|wT fun K7 hK7=>vV O (aH O O O O (gJ ag))<|vX O<|vE hK7<|vT1 O<|wQ fun K8 hK8 a hF=>?_
 have hM:∀ (a:Act) (x:World) (gN:Nat) (topn sln:Value) (XN:Seg),(∀ v∈([topn,sln]:List Value),v.oneCell'=true)→(okC c.it=true→TV w0 [XN,XT] (insL c.it L) topn sln)→Fr 239 [(21,.pointer (some ⟨gN,0,none⟩)),(22,.int .i64 (uP c.it)),(0,.pointer (some ⟨wb,0,none⟩)),(5,.pointer (some ⟨b1,0,none⟩))] a→Hp w0 ([row gN 37 [topn,sln]]::XN::[row b1 33 (c.cells sv lv)]::[row wb 45 [top,sl,.slice LA L.length lc,lA,wA,.int .i64 held1,.bool false,lB,wB,.int .i64 held2,.bool false]]::XT::XL::Y1::Y2::R) x→K8 a x:=by
  clear hF
  intro a x gN topn sln XN tvn hTVn hF hAm
  refine hK8 _ _ ?_
  apply wp_seq_k; intro K9 hK9
  refine ak 13 [8,13] [0,1,2,3,4,5,6,7,8,9,10,11,12,13] _ af af (Hq.drew hAm.q) ?_
  have hA4:=Hl.drew hAm
  refine pR hF<|pX O O<|pX O O<|pW O O (fun _=>yf 2 O TY O JQ O)<|pV O O (fun x hx=>aX O hx O 3 O O xy)<|pW O O (fun _=>yf 2 O TU O uX O)<|pV O O (fun x hx=>aT O hx O 2 O vw (CX.le hc ae) (CX.c_k hc))<|pW O O (fun _=>yf 66 rfl TU O Bz O)<|pV O O (fun x hx=>aT O hx O 2 O BN (CX.le hc ae) (CX.c_ent hc)) fun a hF=>?_
  refine bM O O O (fun K hK=>ax hF O ae MW rfl rfl ?_)
  with_reducible refine (OB w0 _ ([row gN 37 [topn,sln]]::XN::[row b1 33 (c.cells sv lv)]::[row wb 45 [top,sl,.slice LA L.length lc,lA,wA,.int .i64 held1,.bool false,lB,wB,.int .i64 held2,.bool false]]::XT::XL::Y1::Y2::R) [XL] (dZ (TI _ (TI _ (TI _ (TI _ (TI _ ((TF ..)))))))) LA L lc hlc ag hLok hRL c.it hc.it hA4).mono ?_
  rintro e' w5 ⟨v8,X8,rfl,hB8,hA6⟩
  refine ⟨_,rfl,fun a hF=>hK _ _ (fun _=>?_) ?_⟩
  ·exact (qT hA6)
  replace hA6:Hp w0 (X8::[row gN 37 [topn,sln]]::XN::[row b1 33 (c.cells sv lv)]::[row wb 45 [top,sl,.slice LA L.length lc,lA,wA,.int .i64 held1,.bool false,lB,wB,.int .i64 held2,.bool false]]::XT::XL::Y1::Y2::R) w5:=hA6
  have hFn:=hF
  obtain ⟨A8,c8,rfl,hc8,_⟩:=hB8.rc (w0:=w0) (R:=[X8]) (TF ..)
  have hF:=hFn
  clear hFn
  refine pR hF<|pX O O<|pW O O (fun _=>cu (v:= .slice A8 ((Ai c.it L).length) c8) rfl rfl rfl)<|pW O O (fun _=>cu (v:= .int .i64 (uP c.it)) O O O)<|pX O O fun a hF=>?_
  refine bY hF O O O O ae _ (bJ O O) (fun h=>absurd h ae) (fun a hF=>?_)
  refine aB ?_
  refine hK9 _ _ ?_
  apply wp_seq_k; intro K10 hK10
  refine wS hF fun K11 hK11=>vX O<|vX O<|vV O (aH O O O O (jb rfl))<|vE hK11<|vF1 O<|wKp hK10<|wQ fun K12 hK12=>wQ fun K13 hK13 a hF=>?_
  by_cases hok:okC c.it=true
  ·have he0:uP c.it=0:=by unfold uP; rw [if_pos hok]
   have hpl:Ai c.it L=insL c.it L:=by unfold Ai; rw [if_pos hok]
   by_cases hle:(Ai c.it L).length≤24
   ·refine wp_region_lit ?_
    refine vR hF<|vX O<|vV O (aH O O O O (gJ he0))<|vX O<|vG O (bT O O)<|vG O (aY O TT O O)<|vG O (aH O O O O (Gy ag))<|vV O (bg O O O)<|vE hK13<|vT1 O fun a hF=>?_
    have hTV9:=OC (hTVn hok)
    refine wS hF fun K14 hK14=>vX O<|vV O (aT (new:=[topn,sln]) O hA6.q O 1 O wP ai rfl)<|vX O<|vV O (yf 0 O TY O wC O) fun a hF=>?_
    refine au O (fun K hK=>dE (new:=[topn,sln]) hF O O hA6 O O 4 O ai tvn wC (fun w7 hA8=>hK _ _ ?_))
    replace hA8:Hp w0 (X8::[row gN 37 [topn,sln]]::XN::[row b1 33 (c.cells sv lv)]::[row wb 45 [topn,sln,.slice LA L.length lc,lA,wA,.int .i64 held1,.bool false,lB,wB,.int .i64 held2,.bool false]]::XT::XL::Y1::Y2::R) w7:=hA8
    refine az<|hK14 _ _ ?_
    refine wp_region_lit ?_
    refine vR hF<|vX O<|vX O<|vX O<|vV O (yf 2 O TY O JQ O) fun a hF=>?_
    refine au O (fun K hK=>aW hF O O hA8 O O 4 O (by simp) rfl JQ (fun w9 hA10=>hK _ _ ?_))
    replace hA10:Hp w0 (X8::[row gN 37 [topn,sln]]::XN::[row b1 33 (c.cells sv lv)]::[row wb 45 [topn,sln,.slice A8 ((Ai c.it L).length) c8,lA,wA,.int .i64 held1,.bool false,lB,wB,.int .i64 held2,.bool false]]::XT::XL::Y1::Y2::R) w9:=hA10
    refine az<|hK12 _ _ ?_
    refine wS hF fun K15 hK15=>vX O<|vE hK15 fun a hF=>?_
    apply wp_ret
    simp only [Exit.then,Exit.inBlock]
    refine aO hF Tryz.results7 O ?_
    have hA11:Hp w0 ([row wb 45 [topn,sln,.slice A8 ((Ai c.it L).length) c8,lA,wA,.int .i64 held1,.bool false,lB,wB,.int .i64 held2,.bool false]]::XN::XT::X8::Y1::Y2::R) w9:=hpS 9 [4,2,5,0,7,8] [1,3,6] hA10 rfl
    have hA12:Hp w0 ([row wb 45 [topn,sln,.slice A8 ((Ai c.it L).length) c8,lA,wA,.int .i64 held1,.bool false,lB,wB,.int .i64 held2,.bool false]]::(XN++XT)::X8::Y1::Y2::R) w9:=Hp.cast hA11 (by simp [List.append_assoc])
    obtain ⟨Y9,hY9,hA9⟩:=WorldS.mk (by rw [hpl] at hle; exact hle) hTV9 (hpl ▸ hB8) hbA hbB hA12
    exact ⟨Y9,rfl,hY9,hA9⟩
   ·refine wp_region_lit ?_
    refine vR hF<|vX O<|vV O (aH O O O O (gJ he0))<|vX O<|vG O (bT O O)<|vG O (aY O TT O O)<|vG O (aH O O O O (Gz ag))<|vV O (bg O O O)<|vE hK13<|vF1 O<|wKp hK12<|wT fun K16 hK16=>vX O<|vE hK16 fun a hF=>?_
    apply wp_ret
    simp only [Exit.then,Exit.inBlock]
    refine aO hF Tryz.results7 O ?_
    have hA13:Hp w0 ([row wb 45 [top,sl,.slice LA L.length lc,lA,wA,.int .i64 held1,.bool false,lB,wB,.int .i64 held2,.bool false]]::XT::XL::Y1::Y2::R) w5:=hpS 9 [4,5,6,7,8] [0,1,2,3] hA6 rfl
    obtain ⟨Y9,hY9,hA9⟩:=WorldS.mk hL24 hTV hB hbA hbB hA13
    exact ⟨Y9,rfl,hY9,hA9⟩
  ·have he8:uP c.it=8:=by unfold uP; rw [if_neg hok]
   refine wp_region_lit ?_
   refine vR hF<|vX O<|vV O (aH O O O O (fJ (by rw [he8]; decide))) fun a hF=>?_
   refine vR hF<|vX O<|vS O<|vS O<|vS O<|vV O (bg O O O)<|vE hK13<|vF1 O<|wKp hK12<|wT fun K17 hK17=>vX O<|vE hK17 fun a hF=>?_
   apply wp_ret
   simp only [Exit.then,Exit.inBlock]
   refine aO hF Tryz.results7 O ?_
   have hA14:Hp w0 ([row wb 45 [top,sl,.slice LA L.length lc,lA,wA,.int .i64 held1,.bool false,lB,wB,.int .i64 held2,.bool false]]::XT::XL::Y1::Y2::R) w5:=hpS 9 [4,5,6,7,8] [0,1,2,3] hA6 rfl
   obtain ⟨Y9,hY9,hA9⟩:=WorldS.mk hL24 hTV hB hbA hbB hA14
   exact ⟨Y9,rfl,hY9,hA9⟩
 refine lU 14 [8,12,13,14] (.op 0 (.op 1 (.op 2 (.op 3 (.op 4 (.op 5 (.op 6 (.op 7 (.fork 8 12 (.op 9 (.op 10 (.op 11 (.op 12 (.op 13 (.op 14 .done)))))) (.op 8 (.op 9 (.op 10 (.op 11 (.op 13 (.op 14 .done))))))))))))))) (fun x=>Hq w0 ([row b1 33 (c.cells sv lv)]::[row wb 45 [top,sl,.slice LA L.length lc,lA,wA,.int .i64 held1,.bool false,lB,wB,.int .i64 held2,.bool false]]::XT::XL::Y1::Y2::R) x) af af (Hq.drew (hA3.q)) ?_
 have hA15:=Hl.drew hA3
 refine lH hF O O O O ae _ (fun x hx=>bT O O) (fun a hF=>?_)
 refine lH hF O O O O ae _ (fun x hx=>bP O O) (fun a hF=>?_)
 refine lH hF O O O O ae _ (fun x hx=>yf 0 O TY O wC O) (fun a hF=>?_)
 refine lH hF O O O O ae _ (fun x hx=>aT (new:=[top,sl]) O hx O 1 O wP ai rfl) (fun a hF=>?_)
 refine lH hF O O O O ae _ (fun x hx=>yf 2 O TU O uX O) (fun a hF=>?_)
 refine lH hF O O O O ae _ (fun x hx=>aT O hx O 0 O vw (CX.le hc ae) (CX.c_k hc)) (fun a hF=>?_)
 refine lH hF O O O O ae _ (fun x hx=>yf 66 rfl TU O Bz O) (fun a hF=>?_)
 refine lH hF O O O O ae _ (fun x hx=>aT O hx O 0 O BN (CX.le hc ae) (CX.c_ent hc)) (fun a hF=>?_)
 refine zK O O O O (fun K hK=>?_) (fun K hK=>?_)
 ·refine ax hF O ae DT rfl rfl ?_
  with_reducible refine (Ko w0 _ ([row b1 33 (c.cells sv lv)]::[row wb 45 [top,sl,.slice LA L.length lc,lA,wA,.int .i64 held1,.bool false,lB,wB,.int .i64 held2,.bool false]]::XT::XL::Y1::Y2::R) [XT] (dZ (TI _ (TI _ ((TF ..))))) L top sl hTV ag c.it hc.it hT hA15).mono ?_
  rintro e' w16 ⟨topn,sln,XN,rfl,⟨tvn,hTVn⟩,hA17⟩
  refine ⟨_,rfl,fun a hF=>hK _ _ ?_ ?_⟩
  ·exact (qT hA17)
  replace hA17:Hp w0 (XN::[row b1 33 (c.cells sv lv)]::[row wb 45 [top,sl,.slice LA L.length lc,lA,wA,.int .i64 held1,.bool false,lB,wB,.int .i64 held2,.bool false]]::XT::XL::Y1::Y2::R) w16:=hA17
  refine lH hF O O O O ae _ (fun x hx=>bT O O) (fun a hF=>?_)
  refine lH hF O O O O ae _ (fun x hx=>cu (v:= .agg ([topn,sln]).toArray) rfl rfl rfl) (fun a hF=>?_)
  refine lH hF O O O O ae _ (fun x hx=>cu (v:= .int .i64 (uP c.it)) O O O) (fun a hF=>?_)
  refine rf O O O (fun K hK=>bG hF O ae rfl hA17 (vP) (fun b18 w19 a hb18 hF hA20=>hK _ _ (fun _=>?_) ?_))
  ·exact Hp.qp [[row b18 37 [.pointer none,.slice none 0 0]],XN,[row b1 33 (c.cells sv lv)],[row wb 45 [top,sl,.slice LA L.length lc,lA,wA,.int .i64 held1,.bool false,lB,wB,.int .i64 held2,.bool false]],XT,XL,Y1,Y2] R [2,3,4,5,6,7] hA20
  refine rf O O O (fun K hK=>aI (new:=[topn,sln]) hF O O hA20 O O 0 O O tvn wC (fun w21 hA22=>hK _ _ (fun _=>?_) ?_))
  ·exact Hp.qp [[row b18 37 [topn,sln]],XN,[row b1 33 (c.cells sv lv)],[row wb 45 [top,sl,.slice LA L.length lc,lA,wA,.int .i64 held1,.bool false,lB,wB,.int .i64 held2,.bool false]],XT,XL,Y1,Y2] R [2,3,4,5,6,7] hA22
  replace hA22:Hp w0 ([row b18 37 [topn,sln]]::XN::[row b1 33 (c.cells sv lv)]::[row wb 45 [top,sl,.slice LA L.length lc,lA,wA,.int .i64 held1,.bool false,lB,wB,.int .i64 held2,.bool false]]::XT::XL::Y1::Y2::R) w21:=hA22
  refine Qw hF O O O O ae _ (bJ O O) (fun h=>absurd h ae) (fun a hF=>?_)
  refine tY ?_
  exact hM _ _ b18 topn sln XN tvn hTVn (hF.keep [21,22,0,5] rfl) hA22
 ·refine bG hF O ae rfl hA15 (vP) (fun b23 w24 a hb23 hF hA25=>hK _ _ ?_ ?_)
  ·exact (qT hA25)
  refine rf O O O (fun K hK=>ax hF O ae DT rfl rfl ?_)
  with_reducible refine (Ko w0 _ ([row b23 37 [.pointer none,.slice none 0 0]]::[row b1 33 (c.cells sv lv)]::[row wb 45 [top,sl,.slice LA L.length lc,lA,wA,.int .i64 held1,.bool false,lB,wB,.int .i64 held2,.bool false]]::XT::XL::Y1::Y2::R) [XT] (dZ (TI _ (TI _ (TI _ ((TF ..)))))) L top sl hTV ag c.it hc.it hT hA25).mono ?_
  rintro e' w26 ⟨topn,sln,XN,rfl,⟨tvn,hTVn⟩,hA27⟩
  refine ⟨_,rfl,fun a hF=>hK _ _ (fun _=>?_) ?_⟩
  ·exact Hp.qp [XN,[row b23 37 [.pointer none,.slice none 0 0]],[row b1 33 (c.cells sv lv)],[row wb 45 [top,sl,.slice LA L.length lc,lA,wA,.int .i64 held1,.bool false,lB,wB,.int .i64 held2,.bool false]],XT,XL,Y1,Y2] R [2,3,4,5,6,7] hA27
  replace hA27:Hp w0 (XN::[row b23 37 [.pointer none,.slice none 0 0]]::[row b1 33 (c.cells sv lv)]::[row wb 45 [top,sl,.slice LA L.length lc,lA,wA,.int .i64 held1,.bool false,lB,wB,.int .i64 held2,.bool false]]::XT::XL::Y1::Y2::R) w26:=hA27
  refine lH hF O O O O ae _ (fun x hx=>bT O O) (fun a hF=>?_)
  refine lH hF O O O O ae _ (fun x hx=>cu (v:= .agg ([topn,sln]).toArray) rfl rfl rfl) (fun a hF=>?_)
  refine lH hF O O O O ae _ (fun x hx=>cu (v:= .int .i64 (uP c.it)) O O O) (fun a hF=>?_)
  refine rf O O O (fun K hK=>aI (new:=[topn,sln]) hF O O hA27 O O 1 O O tvn wC (fun w28 hA29=>hK _ _ (fun _=>?_) ?_))
  ·exact Hp.qp [XN,[row b23 37 [topn,sln]],[row b1 33 (c.cells sv lv)],[row wb 45 [top,sl,.slice LA L.length lc,lA,wA,.int .i64 held1,.bool false,lB,wB,.int .i64 held2,.bool false]],XT,XL,Y1,Y2] R [2,3,4,5,6,7] hA29
  replace hA29:Hp w0 (XN::[row b23 37 [topn,sln]]::[row b1 33 (c.cells sv lv)]::[row wb 45 [top,sl,.slice LA L.length lc,lA,wA,.int .i64 held1,.bool false,lB,wB,.int .i64 held2,.bool false]]::XT::XL::Y1::Y2::R) w28:=hA29
  refine Qw hF O O O O ae _ (bJ O O) (fun h=>absurd h ae) (fun a hF=>?_)
  refine tY ?_
  have hA30:Hp w0 ([row b23 37 [topn,sln]]::XN::[row b1 33 (c.cells sv lv)]::[row wb 45 [top,sl,.slice LA L.length lc,lA,wA,.int .i64 held1,.bool false,lB,wB,.int .i64 held2,.bool false]]::XT::XL::Y1::Y2::R) w28:=hpO 8 [1,0,2,3,4,5,6,7] hA29 rfl
  exact hM _ _ b23 topn sln XN tvn hTVn (hF.keep [21,22,0,5] rfl) hA30
theorem Kr (w0 w:World) (R G:List Seg) (hG:G⊆R) (wb:Nat) (c:CX) (sv lv:Value) (SA IA:Option Addr) (sc ic:Nat) (Y:Seg) (hc:c.OK) (hk:c.kd=5) (hsv:sv.oneCell'=true) (hT:Tab w0) (hY:WorldS w0 wb Y) (hl24:c.l.length≤24) (hsc:c.p.ss.length≤sc) (hic:c.l.length≤ic) (hS:Rc w0 G SA (fF c.p.ss)) (hI:Rc w0 G IA (cel Itm.cells c.l)) (hA:Hp w0 (Y::R) w):Calls Tryz.prog 7 #[.pointer (some ⟨wb,0,none⟩),.agg (c.cells sv lv).toArray,.slice SA c.p.ss.length sc,.slice IA c.l.length ic] w fun e w'=>∃ Y',e= .returned (.bool true)∧WorldS w0 wb Y'∧Hp w0 (Y'::R) w':=by
 obtain ⟨L,top,sl,iv,lA,wA,lB,wB,held1,held2,ks1,ks2,XT,XL,Y1,Y2,hL24,hTV,hB,hbA,hbB,rfl⟩:=hY
 replace hA:=WorldS.split hA
 have tv0:=kV hTV
 have hLok:=hTV.ok
 obtain ⟨LA,lc,rfl,hlc,hRL⟩:=hB.rc (w0:=w0) (R:=[XL]) (TF ..)
 refine aJ Tryz.func7 O Tryz.ntmps7 ai (fun a hF=>?_)
 refine wp_seq_k fun K1 hK1=>wp_region_lit ?_
 refine au O (fun K hK=>bC (cs:=c.cells sv lv) hF O ae rfl hA O (fun b1 w2 a hb1 hF hA3=>hK _ _ ?_))
 refine vR hF<|vX O<|vE hK1<|wQ fun K2 hK2=>wT fun K3 hK3=>vV O (yf 0 O TU O QY O)<|vV O (aX O hA3.q O 0 O O Bq)<|vE hK3<|wBk<|wT fun K4 hK4=>vV O (aH O O O O (fJ ag))<|vX O<|vE hK4<|vF1 O<|wT fun K5 hK5=>vV O (aH O O O O (fJ ag))<|vX O<|vE hK5<|vF1 O<|wT fun K6 hK6=>vV O (aH O O O O (fJ ag))<|vX O<|vE hK6<|vF1 O<|wT fun K7 hK7=>vV O (aH O O O O (fJ ag))<|vX O<|vE hK7<|vF1 O<|wT fun K8 hK8=>vV O (aH O O O O (gJ ag))<|vX O<|vE hK8<|vT1 O fun a hF=>?_
 have hsl:(dQ c.wd 256 L).length=32:=iD c.wd 256 L
 apply wp_seq_k; intro K9 hK9
 refine ak 27 [6,13,20,25,27] [0,1,2,3,4,5,7,8,9,10,11,12,6,13,14,15,16,17,18,19,21,22,23,24,20,25,26,27] _ af af (Hq.drew hA3.q) ?_
 have hA4:=Hl.drew hA3
 refine pR hF<|pX O O<|pX O O<|pW O O (fun _=>yf 0 O TY O wC O)<|pV O O (fun x hx=>aT (new:=[top,sl]) O hx O 1 O wP ai rfl)<|pW O O (fun _=>yf 1 O TU O QY O)<|pV O O (fun x hx=>aX O hx O 0 O O Bq)<|pW O O (fun _=>yf 1 O TU O QY O)<|pV O O (fun x hx=>aX O hx O 0 O O Bq)<|pX O O<|pX O O<|pW O O (fun _=>yf 2 O TY O JQ O)<|pV O O (fun x hx=>aX O hx O 1 O O xy) fun a hF=>?_
 refine bM O O O (fun K hK=>ax hF O ae Nr rfl rfl ?_)
 with_reducible refine (OO w0 _ ([row b1 33 (c.cells sv lv)]::[row wb 45 [top,sl,.slice LA L.length lc,lA,wA,.int .i64 held1,.bool false,lB,wB,.int .i64 held2,.bool false]]::XT::XL::Y1::Y2::R) [XT] (dZ (TI _ (TI _ ((TF ..))))) L top sl hTV c.wd hT hA4).mono ?_
 rintro e' w5 ⟨rfl,hA6⟩
 refine ⟨_,rfl,fun a hF=>hK _ _ (fun _=>?_) ?_⟩
 ·exact hA6.q
 replace hA6:Hp w0 ([row b1 33 (c.cells sv lv)]::[row wb 45 [top,sl,.slice LA L.length lc,lA,wA,.int .i64 held1,.bool false,lB,wB,.int .i64 held2,.bool false]]::XT::XL::Y1::Y2::R) w5:=hA6
 refine bM O O O (fun K hK=>ax hF O ae Np rfl rfl ?_)
 with_reducible refine (OX w0 _ ([row b1 33 (c.cells sv lv)]::[row wb 45 [top,sl,.slice LA L.length lc,lA,wA,.int .i64 held1,.bool false,lB,wB,.int .i64 held2,.bool false]]::XT::XL::Y1::Y2::R) [XL] (dZ (TI _ (TI _ (TI _ ((TF ..)))))) c.wd LA L lc hlc ag hLok hRL hA6).mono ?_
 rintro e' w7 ⟨rfl,hA8⟩
 refine ⟨_,rfl,fun a hF=>hK _ _ (fun _=>?_) ?_⟩
 ·exact hA8.q
 replace hA8:Hp w0 ([row b1 33 (c.cells sv lv)]::[row wb 45 [top,sl,.slice LA L.length lc,lA,wA,.int .i64 held1,.bool false,lB,wB,.int .i64 held2,.bool false]]::XT::XL::Y1::Y2::R) w7:=hA8
 refine pR hF<|pW O O (fun _=>oM (c:=true) rfl Tz TA D5 af rfl rfl hsl hsl (by simp))<|pX O O<|pG O O (fun _=>bT O O)<|pG O O (fun _=>bP O O)<|pG O O (fun _=>yf 0 O TY O wC O) fun a hF=>?_
 refine dX hF O O O O O O O ae _ (fun x hx=>aT (new:=[top,sl]) O hx O 1 O wP ai rfl) (fun a hF=>?_)
 refine pR hF<|pG O O (fun _=>bT O O)<|pG O O (fun _=>bP O O)<|pG O O (fun _=>yf 2 O TY O JQ O) fun a hF=>?_
 refine dX hF O O O O O O O ae _ (fun x hx=>aX O hx O 1 O O xy) (fun a hF=>?_)
 refine lX hF O O O O O O (fun K hK=>ax hF O ae Nl rfl rfl ?_)
 with_reducible refine ((show Calls Tryz.prog 34 #[.agg ([top,sl]:List Value).toArray,.int .i64 25] _ _ from Ig w0 _ ([row b1 33 (c.cells sv lv)]::[row wb 45 [top,sl,.slice LA L.length lc,lA,wA,.int .i64 held1,.bool false,lB,wB,.int .i64 held2,.bool false]]::XT::XL::Y1::Y2::R) [XT] (dZ (TI _ (TI _ ((TF ..))))) L top sl hTV 25 ag ae hA8)).mono ?_
 rintro e' w9 ⟨vl1,V1,rfl,hV1,hA10⟩
 refine ⟨_,rfl,fun a hF=>hK _ _ (fun _=>?_) ?_⟩
 ·exact (qT hA10)
 replace hA10:Hp w0 (V1::[row b1 33 (c.cells sv lv)]::[row wb 45 [top,sl,.slice LA L.length lc,lA,wA,.int .i64 held1,.bool false,lB,wB,.int .i64 held2,.bool false]]::XT::XL::Y1::Y2::R) w9:=hA10
 have hFn:=hF
 obtain ⟨A1,cv1,rfl,hcv1,hRV1⟩:=hV1.rc (w0:=w0) (R:=[V1]) (TF ..)
 have hF:=hFn
 refine lX hF O O O O O O (fun K hK=>ax hF O ae Pz rfl rfl ?_)
 with_reducible refine (BP w0 _ (V1::[row b1 33 (c.cells sv lv)]::[row wb 45 [top,sl,.slice LA L.length lc,lA,wA,.int .i64 held1,.bool false,lB,wB,.int .i64 held2,.bool false]]::XT::XL::Y1::Y2::R) [V1] [XL] (dZ ((TF ..))) (dZ (TI _ (TI _ (TI _ (TI _ ((TF ..))))))) A1 LA L cv1 lc ag hLok hRV1 hRL hA10).mono ?_
 rintro e' w11 ⟨rfl,hA12⟩
 refine ⟨_,rfl,fun a hF=>hK _ _ (fun _=>?_) ?_⟩
 ·exact (qT hA12)
 replace hA12:Hp w0 (V1::[row b1 33 (c.cells sv lv)]::[row wb 45 [top,sl,.slice LA L.length lc,lA,wA,.int .i64 held1,.bool false,lB,wB,.int .i64 held2,.bool false]]::XT::XL::Y1::Y2::R) w11:=hA12
 refine pR hF<|pW O O (fun _=>bg O O O) fun a hF=>?_
 refine bY hF O O O O ae _ (bJ O O) (fun h=>absurd h ae) (fun a hF=>?_)
 refine aB ?_
 refine hK9 _ _ ?_
 apply wp_ret
 simp only [Exit.then,Exit.inBlock]
 refine aO hF Tryz.results7 O ?_
 have hA13:Hp w0 ([row wb 45 [top,sl,.slice LA L.length lc,lA,wA,.int .i64 held1,.bool false,lB,wB,.int .i64 held2,.bool false]]::XT::XL::Y1::Y2::R) w11:=hpS 7 [2,3,4,5,6] [0,1] hA12 rfl
 obtain ⟨Y9,hY9,hA9⟩:=WorldS.mk hL24 hTV hB hbA hbB hA13
 exact ⟨Y9,rfl,hY9,hA9⟩
theorem Kq (w0 w:World) (R G:List Seg) (hG:G⊆R) (wb:Nat) (c:CX) (sv lv:Value) (SA IA:Option Addr) (sc ic:Nat) (Y:Seg) (hc:c.OK) (hsv:sv.oneCell'=true) (hT:Tab w0) (hY:WorldS w0 wb Y) (hl24:c.l.length≤24) (hsc:c.p.ss.length≤sc) (hic:c.l.length≤ic) (hS:Rc w0 G SA (fF c.p.ss)) (hI:Rc w0 G IA (cel Itm.cells c.l)) (hA:Hp w0 (Y::R) w):Calls Tryz.prog 7 #[.pointer (some ⟨wb,0,none⟩),.agg (c.cells sv lv).toArray,.slice SA c.p.ss.length sc,.slice IA c.l.length ic] w fun e w'=>∃ Y',e= .returned (.bool true)∧WorldS w0 wb Y'∧Hp w0 (Y'::R) w':=by
 by_cases h1:c.kd=1
 ·exact Kw w0 w R G hG wb c sv lv SA IA sc ic Y hc h1 hsv hT hY hl24 hsc hic hS hI hA
 by_cases h2:c.kd=2
 ·exact Kv w0 w R G hG wb c sv lv SA IA sc ic Y hc h2 hsv hT hY hl24 hsc hic hS hI hA
 by_cases h3:c.kd=3
 ·exact Ku w0 w R G hG wb c sv lv SA IA sc ic Y hc h3 hsv hT hY hl24 hsc hic hS hI hA
 by_cases h4:c.kd=4
 ·exact Kt w0 w R G hG wb c sv lv SA IA sc ic Y hc h4 hsv hT hY hl24 hsc hic hS hI hA
 by_cases h5:c.kd=5
 ·exact Kr w0 w R G hG wb c sv lv SA IA sc ic Y hc h5 hsv hT hY hl24 hsc hic hS hI hA
 exact Ky w0 w R G hG wb c sv lv SA IA sc ic Y hc ⟨h1,h2,h3,h4,h5⟩ hsv hT hY hl24 hsc hic hS hI hA
end Go.Proofs.YtpomngkcfbnjoaaGreatDoor
