/- EventEncodes walked. -/
import Derived.Test.YtepbmdlgdaedpaaGreatDoorW2
import Derived.Test.YtepbmdlgdaedpaaGreatDoorLawDecodes
/- EventEncodes walked. -/
set_option maxRecDepth 100000
set_option maxHeartbeats 8000000
namespace Go.Proofs.YtepbmdlgdaedpaaGreatDoor
open Go.RowKit Go.Dk
theorem Dj:aO Tryz.prog 14:=⟨_,Tryz.func14,af,af⟩
theorem vz:aO Tryz.prog 15:=⟨_,Tryz.func15,af,af⟩
theorem vw:aO Tryz.prog 16:=⟨_,Tryz.func16,af,af⟩
theorem uY:aO Tryz.prog 67:=⟨_,Tryz.func67,af,af⟩
theorem CP:aO Tryz.prog 68:=⟨_,Tryz.func68,af,af⟩
theorem CO:aO Tryz.prog 69:=⟨_,Tryz.func69,af,af⟩
theorem uX:aO Tryz.prog 70:=⟨_,Tryz.func70,af,af⟩
theorem qK {α:Type} {a b c d:α} {R:List α} (h1:a∈R) (h2:b∈R) (h3:c∈R) (h4:d∈R):[a,b,c,d]⊆R:=List.cons_subset.2 ⟨h1,List.cons_subset.2 ⟨h2,List.cons_subset.2 ⟨h3,List.cons_subset.2 ⟨h4,List.nil_subset _⟩⟩⟩⟩
theorem iF {e:EA} (h:e.eff.length=32):e.cells.length=44:=by rw [List.length_append,aS,h]; rfl
theorem nN (u:EA):(dO u).cells=u.cells:=by
 unfold dO
 simp only [EA.cells,List.length_map]
theorem oU {w0:World} {R:List Seg} {G:List Seg} (ea:EA) (w:World) (hT:ni w0) (hTR:zY w0) (hV:ea.Ok w0 G) (hvl:ea.v.v.s.length≤50000) (hal:ea.args.length≤50000) (hsz:∀ a∈ea.args,a.v.s.length≤50000) (hbl:ea.src.length≤140737488351232) (hcas:ea.cas.length≤9223372036854775807) (hG:G⊆R) (hA:Hp w0 R w):Calls Tryz.prog 16 #[.agg ea.cells.toArray] w fun e w'=>e= .returned (.bool true)∧Hp w0 R w':=by
 have he32:ea.eff.length=32:=hV.i.2.2.2.2.2
 refine aN Tryz.func16 O Tryz.ntmps16 ai (fun a hF=>?_)
 refine wp_seq_k fun K1 hK1=>wp_region_lit ?_
 refine aI O (fun K hK=>dE (cs:=ea.cells) hF O ae rfl hA O (fun b1 w2 a hb1 hF hA3=>hK _ _ ?_))
 refine vR hF<|vX O<|vE hK1<|wT fun K2 hK2=>vV O (bQ (new:=[.int .i64 ea.op,.int .i64 ea.num,.int .i64 ea.clk,ak ea.typ,ak ea.cas,ak ea.nam,.int .i64 ea.v.v.k,.int .i64 ea.v.v.n,ak ea.v.v.t,.slice ea.v.sA ea.v.v.s.length ea.v.sC,.slice ea.aA ea.args.length ea.aC,.slice ea.bA ea.src.length ea.bC]++dc ea.eff) rfl hA3.q O 0 O Ed (by rw [List.length_append,aS,he32]; exact Nat.le_of_ble_eq_true rfl) (by rw [List.drop_zero]; exact JO (by rw [List.length_append,aS,he32]; exact Nat.le_of_ble_eq_true rfl))) fun a hF=>?_
 refine aI O (fun K hK=>aH hF O ae uY rfl rfl ?_)
 with_reducible refine (uG ea _ hV hvl hal hsz hbl (List.Subset.trans hG (bD (dD))) hA3).mono ?_
 rintro e' w4 ⟨u,gS,gA,gB,M,rfl,heu,hU,hA5⟩
 refine ⟨_,rfl,fun a hF=>hK _ _ ?_⟩
 replace hA5:Hp w0 ((sgS gS u)::(sgA gA u)::(sgB gB u)::M::[row b1 31 ([.int .i64 ea.op,.int .i64 ea.num,.int .i64 ea.clk,ak ea.typ,ak ea.cas,ak ea.nam,.int .i64 ea.v.v.k,.int .i64 ea.v.v.n,ak ea.v.v.t,.slice ea.v.sA ea.v.v.s.length ea.v.sC,.slice ea.aA ea.args.length ea.aC,.slice ea.bA ea.src.length ea.bC]++dc ea.eff)]::R) w4:=hA5
 have hu32:u.eff.length=32:=hU.i.2.2.2.2.2
 refine aI O (fun K hK=>df hF O ae rfl hA5 qA (fun b6 w7 a hb6 hF hA8=>hK _ _ ?_))
 refine aI O (fun K hK=>bu (new:=u.cells) hF O O hA8 O O 0 O (by rw [List.length_append,aS,hu32]; rfl) (fun x hx=>iy (e:=u) hx) jg (fun w9 hA10=>hK _ _ ?_))
 replace hA10:Hp w0 ([row b6 31 u.cells]::(sgS gS u)::(sgA gA u)::(sgB gB u)::M::[row b1 31 ([.int .i64 ea.op,.int .i64 ea.num,.int .i64 ea.clk,ak ea.typ,ak ea.cas,ak ea.nam,.int .i64 ea.v.v.k,.int .i64 ea.v.v.n,ak ea.v.v.t,.slice ea.v.sA ea.v.v.s.length ea.v.sC,.slice ea.aA ea.args.length ea.aC,.slice ea.bA ea.src.length ea.bC]++dc ea.eff)]::R) w9:=hA10
 refine aJ<|hK2 _ _ ?_
 refine wS hF fun K3 hK3=>vV O (bQ (new:=[.int .i64 ea.op,.int .i64 ea.num,.int .i64 ea.clk,ak ea.typ,ak ea.cas,ak ea.nam,.int .i64 ea.v.v.k,.int .i64 ea.v.v.n,ak ea.v.v.t,.slice ea.v.sA ea.v.v.s.length ea.v.sC,.slice ea.aA ea.args.length ea.aC,.slice ea.bA ea.src.length ea.bC]++dc ea.eff) rfl hA10.q O 5 O Ed (by rw [List.length_append,aS,he32]; exact Nat.le_of_ble_eq_true rfl) (by rw [List.drop_zero]; exact JO (by rw [List.length_append,aS,he32]; exact Nat.le_of_ble_eq_true rfl))) fun a hF=>?_
 refine aI O (fun K hK=>aH hF O ae uY rfl rfl ?_)
 with_reducible refine (uG ea _ hV hvl hal hsz hbl (List.Subset.trans hG (bD (bD (bD (bD (bD (bD (dD)))))))) hA10).mono ?_
 rintro e' w11 ⟨v,hS,hA_,hB,N,rfl,hev,hW,hA12⟩
 refine ⟨_,rfl,fun a hF=>hK _ _ ?_⟩
 replace hA12:Hp w0 ((sgS hS v)::(sgA hA_ v)::(sgB hB v)::N::[row b6 31 u.cells]::(sgS gS u)::(sgA gA u)::(sgB gB u)::M::[row b1 31 ([.int .i64 ea.op,.int .i64 ea.num,.int .i64 ea.clk,ak ea.typ,ak ea.cas,ak ea.nam,.int .i64 ea.v.v.k,.int .i64 ea.v.v.n,ak ea.v.v.t,.slice ea.v.sA ea.v.v.s.length ea.v.sC,.slice ea.aA ea.args.length ea.aC,.slice ea.bA ea.src.length ea.bC]++dc ea.eff)]::R) w11:=hA12
 have hv32:v.eff.length=32:=hW.i.2.2.2.2.2
 refine aI O (fun K hK=>df hF O ae rfl hA12 qA (fun b13 w14 a hb13 hF hA15=>hK _ _ ?_))
 refine aI O (fun K hK=>bu (new:=v.cells) hF O O hA15 O O 0 O (by rw [List.length_append,aS,hv32]; rfl) (fun x hx=>iy (e:=v) hx) jg (fun w16 hA17=>hK _ _ ?_))
 replace hA17:Hp w0 ([row b13 31 v.cells]::(sgS hS v)::(sgA hA_ v)::(sgB hB v)::N::[row b6 31 u.cells]::(sgS gS u)::(sgA gA u)::(sgB gB u)::M::[row b1 31 ([.int .i64 ea.op,.int .i64 ea.num,.int .i64 ea.clk,ak ea.typ,ak ea.cas,ak ea.nam,.int .i64 ea.v.v.k,.int .i64 ea.v.v.n,ak ea.v.v.t,.slice ea.v.sA ea.v.v.s.length ea.v.sC,.slice ea.aA ea.args.length ea.aC,.slice ea.bA ea.src.length ea.bC]++dc ea.eff)]::R) w16:=hA17
 refine aJ<|hK3 _ _ ?_
 apply wp_seq_k; intro K4 hK4
 refine wS hF fun K5 hK5=>vX O<|vE hK5<|wBk fun a hF=>?_
 have huv:u.ev=v.ev:=heu.trans hev.symm
 have hcv:v.cas.length≤9223372036854775807:=by rw [show v.cas=ea.cas from congrArg Ev.cas hev]; exact hcas
 clear heu hev
 have hA18:Hp w0 ((sgS gS u)::(sgA gA u)::(sgB gB u)::M::(sgS hS v)::(sgA hA_ v)::(sgB hB v)::N::[row b6 31 u.cells]::[row b13 31 v.cells]::[row b1 31 ([.int .i64 ea.op,.int .i64 ea.num,.int .i64 ea.clk,ak ea.typ,ak ea.cas,ak ea.nam,.int .i64 ea.v.v.k,.int .i64 ea.v.v.n,ak ea.v.v.t,.slice ea.v.sA ea.v.v.s.length ea.v.sC,.slice ea.aA ea.args.length ea.aC,.slice ea.bA ea.src.length ea.bC]++dc ea.eff)]::R) w16:=hpO 11 [6,7,8,9,1,2,3,4,5,0,10] hA17 af
 refine bz (G:=Nat) (fun i a x=>∃ (u:EA) (v:EA),i≤4∧u.ev=v.ev∧WE w0 gS gA gB M u∧WE w0 hS hA_ hB N v∧v.cas.length≤9223372036854775807∧Fr 59 [(5,.int .i64 ((i:Nat):Int)),(1,.pointer (some ⟨b1,0,none⟩)),(3,.pointer (some ⟨b6,0,none⟩)),(4,.pointer (some ⟨b13,0,none⟩))] a∧Hp w0 ((sgS gS u)::(sgA gA u)::(sgB gB u)::M::(sgS hS v)::(sgA hA_ v)::(sgB hB v)::N::[row b6 31 u.cells]::[row b13 31 v.cells]::[row b1 31 ([.int .i64 ea.op,.int .i64 ea.num,.int .i64 ea.clk,ak ea.typ,ak ea.cas,ak ea.nam,.int .i64 ea.v.v.k,.int .i64 ea.v.v.n,ak ea.v.v.t,.slice ea.v.sA ea.v.v.s.length ea.v.sC,.slice ea.aA ea.args.length ea.aC,.slice ea.bA ea.src.length ea.bC]++dc ea.eff)]::R) x) (fun i=>4-i) 0 (⟨u,v,ae,huv,hU,hW,hcv,hF.keep [5,1,3,4] rfl,hA18⟩) ?_
 clear hF
 rintro i a w20 ⟨u,v,hi,huv,hU,hW,hcv,hF,hA19⟩
 have hu32:u.eff.length=32:=hU.i.2.2.2.2.2
 have hv32:v.eff.length=32:=hW.i.2.2.2.2.2
 apply wp_seq_k; intro K6 hK6
 refine wS hF fun K7 hK7=>vX O<|vV O (aG O O O O O)<|vE hK7 fun a hF=>?_
 by_cases hlt:i<4
 ·refine aF hF O (dB ag) ?_
  apply wp_skip
  refine hK6 _ _ ?_
  apply wp_seq_k; intro K8 hK8
  apply wp_block
  refine wS hF fun K9 hK9=>vV O (bQ (new:=u.cells) rfl hA19.q O 8 O Ed (by rw [iF hu32]; exact JH _) (by rw [List.drop_zero]; exact JO (by rw [iF hu32]; exact JH _))) fun a hF=>?_
  refine aI O (fun K hK=>aH hF O ae F7 rfl rfl ?_)
  with_reducible refine (iP u _ hT hU.ok (qK ((JI ..)) (JJ _ ((JI ..))) (JJ _ (JJ _ ((JI ..)))) (JJ _ (JJ _ (JJ _ ((JI ..)))))) hA19).mono ?_
  rintro e' w21 ⟨vE1,ZE1,rfl,hZE1,hA22⟩
  refine ⟨_,rfl,fun a hF=>hK _ _ ?_⟩
  replace hA22:Hp w0 (ZE1::(sgS gS u)::(sgA gA u)::(sgB gB u)::M::(sgS hS v)::(sgA hA_ v)::(sgB hB v)::N::[row b6 31 u.cells]::[row b13 31 v.cells]::[row b1 31 ([.int .i64 ea.op,.int .i64 ea.num,.int .i64 ea.clk,ak ea.typ,ak ea.cas,ak ea.nam,.int .i64 ea.v.v.k,.int .i64 ea.v.v.n,ak ea.v.v.t,.slice ea.v.sA ea.v.v.s.length ea.v.sC,.slice ea.aA ea.args.length ea.aC,.slice ea.bA ea.src.length ea.bC]++dc ea.eff)]::R) w21:=hA22
  obtain ⟨_,AE1,cE1,rfl,hcE1,hRE1⟩:=hZE1.rd (w0:=w0) (R:=[ZE1]) (JI ..)
  obtain ⟨_,_,_,hle1,hlf1⟩:=hZE1.cap
  refine vR hF<|vX O<|vV O (aQ (v:= .slice AE1 ((eQ u.ev).length) cE1) rfl rfl rfl)<|vV O (aQ (v:= .int .i64 ((dS u.ev:Nat):Int)) O O O)<|vX O<|vX O<|vE hK9<|wT fun K10 hK10=>vV O (bQ (new:=v.cells) rfl hA22.q O 10 rfl Ed (by rw [iF hv32]; exact JH _) (by rw [List.drop_zero]; exact JO (by rw [iF hv32]; exact JH _))) fun a hF=>?_
  refine aI O (fun K hK=>aH hF O ae CP rfl rfl ?_)
  with_reducible refine (yQ v _ hTR hW.ok hcv (qK (JJ _ (JJ _ (JJ _ (JJ _ (JJ _ ((JI ..))))))) (JJ _ (JJ _ (JJ _ (JJ _ (JJ _ (JJ _ ((JI ..)))))))) (JJ _ (JJ _ (JJ _ (JJ _ (JJ _ (JJ _ (JJ _ ((JI ..))))))))) (JJ _ (JJ _ (JJ _ (JJ _ (JJ _ (JJ _ (JJ _ (JJ _ ((JI ..))))))))))) hA22).mono ?_
  rintro e' w23 ⟨vE2,ZE2,rfl,hZE2,hA24⟩
  refine ⟨_,rfl,fun a hF=>hK _ _ ?_⟩
  replace hA24:Hp w0 (ZE2::ZE1::(sgS gS u)::(sgA gA u)::(sgB gB u)::M::(sgS hS v)::(sgA hA_ v)::(sgB hB v)::N::[row b6 31 u.cells]::[row b13 31 v.cells]::[row b1 31 ([.int .i64 ea.op,.int .i64 ea.num,.int .i64 ea.clk,ak ea.typ,ak ea.cas,ak ea.nam,.int .i64 ea.v.v.k,.int .i64 ea.v.v.n,ak ea.v.v.t,.slice ea.v.sA ea.v.v.s.length ea.v.sC,.slice ea.aA ea.args.length ea.aC,.slice ea.bA ea.src.length ea.bC]++dc ea.eff)]::R) w23:=hA24
  obtain ⟨_,AE2,cE2,rfl,hcE2,hRE2⟩:=hZE2.rd (w0:=w0) (R:=[ZE2]) (JI ..)
  refine vR hF<|vX O<|vV O (aQ (v:= .slice AE2 ((eQ v.ev).length) cE2) rfl rfl rfl)<|vV O (aQ (v:= .int .i64 ((dS v.ev:Nat):Int)) O O O)<|vX O<|vX O<|vE hK10<|wQ fun K11 hK11=>wT fun K12 hK12=>vX O<|vX O<|vV O (aG O O O O (dZ (by rw [huv]))) fun a hF=>?_
  refine vR hF<|vX O fun a hF=>?_
  refine aB hF O O O O (aj rfl) ae _ (aZ O O) (fun a hF=>?_)
  refine aB hF O O O O (aj rfl) ae _ (aZ O O) (fun a hF=>?_)
  refine dU hF O O O (aj rfl) (fun K hK=>aH hF O ae F5 rfl rfl ?_)
  with_reducible refine (uM _ (hRE1.mono (List.cons_subset.2 ⟨(JJ _ ((JI ..))),List.nil_subset _⟩)) (hRE2.mono (List.cons_subset.2 ⟨((JI ..)),List.nil_subset _⟩)) (Nat.le_trans hle1 hlf1) hA24).mono ?_
  rintro e' w25 ⟨rfl,hA26⟩
  refine ⟨_,rfl,fun a hF=>hK _ _ ?_⟩
  replace hA26:Hp w0 (ZE2::ZE1::(sgS gS u)::(sgA gA u)::(sgB gB u)::M::(sgS hS v)::(sgA hA_ v)::(sgB hB v)::N::[row b6 31 u.cells]::[row b13 31 v.cells]::[row b1 31 ([.int .i64 ea.op,.int .i64 ea.num,.int .i64 ea.clk,ak ea.typ,ak ea.cas,ak ea.nam,.int .i64 ea.v.v.k,.int .i64 ea.v.v.n,ak ea.v.v.t,.slice ea.v.sA ea.v.v.s.length ea.v.sC,.slice ea.aA ea.args.length ea.aC,.slice ea.bA ea.src.length ea.bC]++dc ea.eff)]::R) w25:=hA26
  rw [show decide (eQ u.ev=eQ v.ev)=true from decide_eq_true (by rw [huv])] at hF
  refine aB hF O O O O (aj rfl) ae _ (cZ O O O) (fun a hF=>?_)
  refine vR hF<|vV O (aP O O O O)<|vX O fun a hF=>?_
  refine aB hF O O O O (aj rfl) ae _ (bQ (new:=u.cells) rfl hA26.q O 10 rfl Ed (by rw [iF hu32]; exact JH _) (by rw [List.drop_zero]; exact JO (by rw [iF hu32]; exact JH _))) (fun a hF=>?_)
  refine aB hF O O O O (aj rfl) ae _ (bQ (new:=v.cells) rfl hA26.q O 11 rfl Ed (by rw [iF hv32]; exact JH _) (by rw [List.drop_zero]; exact JO (by rw [iF hv32]; exact JH _))) (fun a hF=>?_)
  refine dU hF O O O (aj rfl) (fun K hK=>aH hF O ae CO rfl rfl ?_)
  with_reducible refine (EY u v _ hU hW huv (qK (JJ _ (JJ _ ((JI ..)))) (JJ _ (JJ _ (JJ _ ((JI ..))))) (JJ _ (JJ _ (JJ _ (JJ _ ((JI ..)))))) (JJ _ (JJ _ (JJ _ (JJ _ (JJ _ ((JI ..)))))))) (qK (JJ _ (JJ _ (JJ _ (JJ _ (JJ _ (JJ _ ((JI ..)))))))) (JJ _ (JJ _ (JJ _ (JJ _ (JJ _ (JJ _ (JJ _ ((JI ..))))))))) (JJ _ (JJ _ (JJ _ (JJ _ (JJ _ (JJ _ (JJ _ (JJ _ ((JI ..)))))))))) (JJ _ (JJ _ (JJ _ (JJ _ (JJ _ (JJ _ (JJ _ (JJ _ (JJ _ ((JI ..)))))))))))) hA26).mono ?_
  rintro e' w27 ⟨rfl,hA28⟩
  refine ⟨_,rfl,fun a hF=>hK _ _ ?_⟩
  replace hA28:Hp w0 (ZE2::ZE1::(sgS gS u)::(sgA gA u)::(sgB gB u)::M::(sgS hS v)::(sgA hA_ v)::(sgB hB v)::N::[row b6 31 u.cells]::[row b13 31 v.cells]::[row b1 31 ([.int .i64 ea.op,.int .i64 ea.num,.int .i64 ea.clk,ak ea.typ,ak ea.cas,ak ea.nam,.int .i64 ea.v.v.k,.int .i64 ea.v.v.n,ak ea.v.v.t,.slice ea.v.sA ea.v.v.s.length ea.v.sC,.slice ea.aA ea.args.length ea.aC,.slice ea.bA ea.src.length ea.bC]++dc ea.eff)]::R) w27:=hA28
  refine aB hF O O O O (aj rfl) ae _ (cZ O O O) (fun a hF=>?_)
  refine vR hF<|vV O (aP O O O O)<|vE hK12<|vF1 O<|wKp hK11<|wQ fun K13 hK13=>wT fun K14 hK14=>vX O<|vE hK14<|wBk fun a hF=>?_
  obtain ⟨n,hn⟩:∃ n,n=(eQ u.ev).length:=⟨_,rfl⟩
  rw [← hn] at hF hZE1 hle1
  have hA29:Hp w0 (ZE1::(sgS gS u)::(sgA gA u)::(sgB gB u)::M::(sgS hS v)::(sgA hA_ v)::(sgB hB v)::N::[row b6 31 u.cells]::[row b13 31 v.cells]::[row b1 31 ([.int .i64 ea.op,.int .i64 ea.num,.int .i64 ea.clk,ak ea.typ,ak ea.cas,ak ea.nam,.int .i64 ea.v.v.k,.int .i64 ea.v.v.n,ak ea.v.v.t,.slice ea.v.sA ea.v.v.s.length ea.v.sC,.slice ea.aA ea.args.length ea.aC,.slice ea.bA ea.src.length ea.bC]++dc ea.eff)]::R) w27:=hpS 13 [1,2,3,4,5,6,7,8,9,10,11,12] [0] hA28 af
  refine bz (G:=Nat) (fun j a x=>∃ (Wb:List Value) (Zb:Seg),j≤n∧Buf 5 1 Zb (.slice AE1 n cE1) n Wb∧Wb.length=n∧Fr 59 [(10,.int .i64 ((j:Nat):Int)),(1,.pointer (some ⟨b1,0,none⟩)),(3,.pointer (some ⟨b6,0,none⟩)),(4,.pointer (some ⟨b13,0,none⟩)),(5,.int .i64 ((i:Nat):Int)),(6,.slice AE1 n cE1)] a∧Hp w0 (Zb::(sgS gS u)::(sgA gA u)::(sgB gB u)::M::(sgS hS v)::(sgA hA_ v)::(sgB hB v)::N::[row b6 31 u.cells]::[row b13 31 v.cells]::[row b1 31 ([.int .i64 ea.op,.int .i64 ea.num,.int .i64 ea.clk,ak ea.typ,ak ea.cas,ak ea.nam,.int .i64 ea.v.v.k,.int .i64 ea.v.v.n,ak ea.v.v.t,.slice ea.v.sA ea.v.v.s.length ea.v.sC,.slice ea.aA ea.args.length ea.aC,.slice ea.bA ea.src.length ea.bC]++dc ea.eff)]::R) x) (fun j=>n-j) 0 (⟨_,_,JE _,hZE1,(by rw [aS,hn]),hF.keep [10,1,3,4,5,6] rfl,hA29⟩) ?_
  clear hF
  rintro j a w31 ⟨Wb,Zb,hj,hZb,hWl,hF,hA30⟩
  apply wp_seq_k; intro K15 hK15
  refine wS hF fun K16 hK16=>vX O<|vX O<|vV O (aT O JG O O)<|vV O (aG O O O O O)<|vE hK16 fun a hF=>?_
  by_cases hlt2:j<n
  ·refine aF hF O (dB ag) ?_
   obtain ⟨gv,BV,ZV,cv,hvv,rfl,_,hO3⟩:=F8 hZb hlt2 (.int .u8 7)
   injection hvv with hv1 hv2 hv3
   have hFn:=hF
   subst hv1 hv3
   have hF:=hFn
   clear hFn
   apply wp_skip
   refine hK15 _ _ ?_
   apply wp_seq_k; intro K17 hK17
   apply wp_block
   refine wp_region_lit ?_
   refine vR hF<|vX O<|vX O<|vV O (bI O JG qR O O j rfl hlt2 (ad2 _ _ _)) fun a hF=>?_
   refine aI O (fun K hK=>bH hF O O hA30 O O 0 O (by rw [List.length_append,List.length_append,hWl]; omega) rfl qR (fun w32 hA33=>hK _ _ ?_))
   replace hA33:Hp w0 ([row gv 5 ((BV++Wb++ZV).set (BV.length+j) (.int .u8 7))]::(sgS gS u)::(sgA gA u)::(sgB gB u)::M::(sgS hS v)::(sgA hA_ v)::(sgB hB v)::N::[row b6 31 u.cells]::[row b13 31 v.cells]::[row b1 31 ([.int .i64 ea.op,.int .i64 ea.num,.int .i64 ea.clk,ak ea.typ,ak ea.cas,ak ea.nam,.int .i64 ea.v.v.k,.int .i64 ea.v.v.n,ak ea.v.v.t,.slice ea.v.sA ea.v.v.s.length ea.v.sC,.slice ea.aA ea.args.length ea.aC,.slice ea.bA ea.src.length ea.bC]++dc ea.eff)]::R) w32:=hA33
   refine aJ<|hK17 _ _ ?_
   refine wp_region_lit ?_
   refine vR hF<|vX O<|vV O (bK O O O (JF _ ag))<|vX O fun a hF=>?_
   refine aJ ?_
   exact ⟨j+1,ag,_,_,ag,hO3,(by rw [List.length_set]; exact hWl),hF.keep [10,1,3,4,5,6] rfl,hA33⟩
  ·refine az hF O (dw ag) ?_
   apply wp_exit
   refine hK13 _ _ ?_
   refine wS hF fun K18 hK18=>vX O<|vV O (aG O O O O O)<|vE hK18 fun a hF=>?_
   by_cases hg0:0<i
   ·refine aF hF O (fQ ag) ?_
    refine wS hF fun K19 hK19=>vV O (bQ (new:=u.cells) rfl hA30.q O 9 O Ed (by rw [iF hu32]; exact JH _) (by rw [List.drop_zero]; exact JO (by rw [iF hu32]; exact JH _))) fun a hF=>?_
    have hA34:Hp w0 ((sgA gA u)::(sgB gB u)::Zb::(sgS gS u)::M::(sgS hS v)::(sgA hA_ v)::(sgB hB v)::N::[row b6 31 u.cells]::[row b13 31 v.cells]::[row b1 31 ([.int .i64 ea.op,.int .i64 ea.num,.int .i64 ea.clk,ak ea.typ,ak ea.cas,ak ea.nam,.int .i64 ea.v.v.k,.int .i64 ea.v.v.n,ak ea.v.v.t,.slice ea.v.sA ea.v.v.s.length ea.v.sC,.slice ea.aA ea.args.length ea.aC,.slice ea.bA ea.src.length ea.bC]++dc ea.eff)]::R) w31:=hpO 12 [2,3,0,1,4,5,6,7,8,9,10,11] hA30 af
    refine aI O (fun K hK=>aH hF O ae uX rfl rfl ?_)
    with_reducible refine (xW u _ hU hA34).mono ?_
    rintro e' w35 ⟨rfl,hA36⟩
    refine ⟨_,rfl,fun a hF=>hK _ _ ?_⟩
    replace hA36:Hp w0 ((sgA gA (dO u))::(sgB gB (dO u))::Zb::(sgS gS u)::M::(sgS hS v)::(sgA hA_ v)::(sgB hB v)::N::[row b6 31 u.cells]::[row b13 31 v.cells]::[row b1 31 ([.int .i64 ea.op,.int .i64 ea.num,.int .i64 ea.clk,ak ea.typ,ak ea.cas,ak ea.nam,.int .i64 ea.v.v.k,.int .i64 ea.v.v.n,ak ea.v.v.t,.slice ea.v.sA ea.v.v.s.length ea.v.sC,.slice ea.aA ea.args.length ea.aC,.slice ea.bA ea.src.length ea.bC]++dc ea.eff)]::R) w35:=hA36
    refine aJ<|hK19 _ _ ?_
    refine wp_region_lit ?_
    refine vR hF<|vV O (bQ (new:=v.cells) rfl hA36.q O 10 rfl Ed (by rw [iF hv32]; exact JH _) (by rw [List.drop_zero]; exact JO (by rw [iF hv32]; exact JH _))) fun a hF=>?_
    have hA37:Hp w0 ((sgA hA_ v)::(sgB hB v)::(sgA gA (dO u))::(sgB gB (dO u))::Zb::(sgS gS u)::M::(sgS hS v)::N::[row b6 31 u.cells]::[row b13 31 v.cells]::[row b1 31 ([.int .i64 ea.op,.int .i64 ea.num,.int .i64 ea.clk,ak ea.typ,ak ea.cas,ak ea.nam,.int .i64 ea.v.v.k,.int .i64 ea.v.v.n,ak ea.v.v.t,.slice ea.v.sA ea.v.v.s.length ea.v.sC,.slice ea.aA ea.args.length ea.aC,.slice ea.bA ea.src.length ea.bC]++dc ea.eff)]::R) w35:=hpO 12 [6,7,0,1,2,3,4,5,8,9,10,11] hA36 af
    refine aI O (fun K hK=>aH hF O ae uX rfl rfl ?_)
    with_reducible refine (xW v _ hW hA37).mono ?_
    rintro e' w38 ⟨rfl,hA39⟩
    refine ⟨_,rfl,fun a hF=>hK _ _ ?_⟩
    replace hA39:Hp w0 ((sgA hA_ (dO v))::(sgB hB (dO v))::(sgA gA (dO u))::(sgB gB (dO u))::Zb::(sgS gS u)::M::(sgS hS v)::N::[row b6 31 u.cells]::[row b13 31 v.cells]::[row b1 31 ([.int .i64 ea.op,.int .i64 ea.num,.int .i64 ea.clk,ak ea.typ,ak ea.cas,ak ea.nam,.int .i64 ea.v.v.k,.int .i64 ea.v.v.n,ak ea.v.v.t,.slice ea.v.sA ea.v.v.s.length ea.v.sC,.slice ea.aA ea.args.length ea.aC,.slice ea.bA ea.src.length ea.bC]++dc ea.eff)]::R) w38:=hA39
    refine aJ<|hK8 _ _ ?_
    refine wp_region_lit ?_
    refine vR hF<|vX O<|vV O (bK O O O (JF _ ag))<|vX O fun a hF=>?_
    refine aJ ?_
    have hA40:Hp w0 ((sgA hA_ (dO v))::(sgB hB (dO v))::(sgA gA (dO u))::(sgB gB (dO u))::Zb::(sgS gS u)::M::(sgS hS v)::N::[row b6 31 ((dO u).cells)]::[row b13 31 v.cells]::[row b1 31 ([.int .i64 ea.op,.int .i64 ea.num,.int .i64 ea.clk,ak ea.typ,ak ea.cas,ak ea.nam,.int .i64 ea.v.v.k,.int .i64 ea.v.v.n,ak ea.v.v.t,.slice ea.v.sA ea.v.v.s.length ea.v.sC,.slice ea.aA ea.args.length ea.aC,.slice ea.bA ea.src.length ea.bC]++dc ea.eff)]::R) w38:=(by rw [nN u]; exact hA39)
    have hA41:Hp w0 ((sgA hA_ (dO v))::(sgB hB (dO v))::(sgA gA (dO u))::(sgB gB (dO u))::Zb::(sgS gS u)::M::(sgS hS v)::N::[row b6 31 ((dO u).cells)]::[row b13 31 ((dO v).cells)]::[row b1 31 ([.int .i64 ea.op,.int .i64 ea.num,.int .i64 ea.clk,ak ea.typ,ak ea.cas,ak ea.nam,.int .i64 ea.v.v.k,.int .i64 ea.v.v.n,ak ea.v.v.t,.slice ea.v.sA ea.v.v.s.length ea.v.sC,.slice ea.aA ea.args.length ea.aC,.slice ea.bA ea.src.length ea.bC]++dc ea.eff)]::R) w38:=(by rw [nN v]; exact hA40)
    have hA42:Hp w0 ((sgS gS u)::(sgA gA (dO u))::(sgB gB (dO u))::M::(sgS hS v)::(sgA hA_ (dO v))::(sgB hB (dO v))::N::[row b6 31 ((dO u).cells)]::[row b13 31 ((dO v).cells)]::[row b1 31 ([.int .i64 ea.op,.int .i64 ea.num,.int .i64 ea.clk,ak ea.typ,ak ea.cas,ak ea.nam,.int .i64 ea.v.v.k,.int .i64 ea.v.v.n,ak ea.v.v.t,.slice ea.v.sA ea.v.v.s.length ea.v.sC,.slice ea.aA ea.args.length ea.aC,.slice ea.bA ea.src.length ea.bC]++dc ea.eff)]::R) w38:=hpS 12 [5,2,3,6,7,0,1,8,9,10,11] [4] hA41 af
    exact ⟨i+1,ag,dO u,dO v,ag,Eb huv,hU.turn,hW.turn,hcv,hF.keep [5,1,3,4] rfl,hA42⟩
   ·refine az hF O (fV ag) ?_
    apply wp_skip
    refine hK8 _ _ ?_
    refine wp_region_lit ?_
    refine vR hF<|vX O<|vV O (bK O O O (JF _ ag))<|vX O fun a hF=>?_
    refine aJ ?_
    have hA43:Hp w0 ((sgS gS u)::(sgA gA u)::(sgB gB u)::M::(sgS hS v)::(sgA hA_ v)::(sgB hB v)::N::[row b6 31 u.cells]::[row b13 31 v.cells]::[row b1 31 ([.int .i64 ea.op,.int .i64 ea.num,.int .i64 ea.clk,ak ea.typ,ak ea.cas,ak ea.nam,.int .i64 ea.v.v.k,.int .i64 ea.v.v.n,ak ea.v.v.t,.slice ea.v.sA ea.v.v.s.length ea.v.sC,.slice ea.aA ea.args.length ea.aC,.slice ea.bA ea.src.length ea.bC]++dc ea.eff)]::R) w31:=hpS 12 [1,2,3,4,5,6,7,8,9,10,11] [0] hA30 af
    exact ⟨i+1,ag,u,v,ag,huv,hU,hW,hcv,hF.keep [5,1,3,4] rfl,hA43⟩
 ·refine az hF O (dw ag) ?_
  apply wp_exit
  refine hK4 _ _ ?_
  refine wS hF fun K20 hK20=>vX O<|vE hK20 fun a hF=>?_
  apply wp_ret
  refine aK hF Tryz.results16 O ?_
  have hA44:Hp w0 (R) w20:=hpS 11 [] [0,1,2,3,4,5,6,7,8,9,10] hA19 af
  exact ⟨rfl,hA44⟩
theorem uk (w0:World) (ea:EA) (nn:Int) (hT:ni w0) (hTR:zY w0) (hV:ea.Ok w0 []) (hnn : -9223372036854775808≤nn∧nn≤9223372036854775807) (hvl:ea.v.v.s.length<8796093022000) (hal:ea.args.length<8796093022000) (hsz:∀ a∈ea.args,a.v.s.length<8796093022000) (hbl:ea.src.length≤140737488351232) (hcas:ea.cas.length≤9223372036854775807):Calls Tryz.prog 3 #[.agg ea.cells.toArray,.int .i64 nn] w0 fun e W'=>e= .returned (.bool true)∧At w0 [] W':=by
 have hA:Hp w0 [] w0:=Hp.start w0
 have he32:ea.eff.length=32:=hV.i.2.2.2.2.2
 refine aN Tryz.func3 O Tryz.ntmps3 ai (fun a hF=>?_)
 refine wp_seq_k fun K1 hK1=>wp_region_lit ?_
 refine aI O (fun K hK=>dE (cs:=ea.cells) hF O ae rfl hA O (fun b1 w2 a hb1 hF hA3=>hK _ _ ?_))
 refine vR hF<|vX O<|vE hK1<|wQ fun K2 hK2=>wT fun K3 hK3=>vV O (bQ (new:=[.int .i64 ea.op,.int .i64 ea.num,.int .i64 ea.clk,ak ea.typ,ak ea.cas,ak ea.nam,.int .i64 ea.v.v.k,.int .i64 ea.v.v.n,ak ea.v.v.t,.slice ea.v.sA ea.v.v.s.length ea.v.sC,.slice ea.aA ea.args.length ea.aC,.slice ea.bA ea.src.length ea.bC]++dc ea.eff) rfl hA3.q O 0 O Ed (by rw [List.length_append,aS,he32]; exact Nat.le_of_ble_eq_true rfl) (by rw [List.drop_zero]; exact JO (by rw [List.length_append,aS,he32]; exact Nat.le_of_ble_eq_true rfl))) fun a hF=>?_
 refine aI O (fun K hK=>aH hF O ae Dj rfl rfl ?_)
 with_reducible refine (Cf ea _ hV hvl hal hsz (List.nil_subset _) hA3).mono ?_
 rintro e' w4 ⟨bg,rfl,hbg,hA5⟩
 refine ⟨_,rfl,fun a hF=>hK _ _ ?_⟩
 replace hA5:Hp w0 ([row b1 31 ([.int .i64 ea.op,.int .i64 ea.num,.int .i64 ea.clk,ak ea.typ,ak ea.cas,ak ea.nam,.int .i64 ea.v.v.k,.int .i64 ea.v.v.n,ak ea.v.v.t,.slice ea.v.sA ea.v.v.s.length ea.v.sC,.slice ea.aA ea.args.length ea.aC,.slice ea.bA ea.src.length ea.bC]++dc ea.eff)]::[]) w4:=hA5
 refine aJ<|hK3 _ _ ?_
 rcases tf bg with hb | hb
 ·obtain ⟨hv5,ha5,hs5⟩:=hbg hb
  refine az hF O hb ?_
  apply wp_skip
  refine hK2 _ _ ?_
  apply wp_seq_k; intro K4 hK4
  refine wp_seq_k fun K5 hK5=>wp_region_lit ?_
  refine aI O (fun K hK=>aH hF O ae vz rfl rfl ?_)
  with_reducible refine (uO _ hT hA5).mono ?_
  rintro e' w6 ⟨rfl,hA7⟩
  refine ⟨_,rfl,fun a hF=>hK _ _ ?_⟩
  replace hA7:Hp w0 ([row b1 31 ([.int .i64 ea.op,.int .i64 ea.num,.int .i64 ea.clk,ak ea.typ,ak ea.cas,ak ea.nam,.int .i64 ea.v.v.k,.int .i64 ea.v.v.n,ak ea.v.v.t,.slice ea.v.sA ea.v.v.s.length ea.v.sC,.slice ea.aA ea.args.length ea.aC,.slice ea.bA ea.src.length ea.bC]++dc ea.eff)]::[]) w6:=hA7
  refine vR hF<|vV O (cZ O O O)<|vX O fun a hF=>?_
  refine aB hF O O O O (aj rfl) ae _ (bQ (new:=[.int .i64 ea.op,.int .i64 ea.num,.int .i64 ea.clk,ak ea.typ,ak ea.cas,ak ea.nam,.int .i64 ea.v.v.k,.int .i64 ea.v.v.n,ak ea.v.v.t,.slice ea.v.sA ea.v.v.s.length ea.v.sC,.slice ea.aA ea.args.length ea.aC,.slice ea.bA ea.src.length ea.bC]++dc ea.eff) rfl hA7.q O 0 O Ed (by rw [List.length_append,aS,he32]; exact Nat.le_of_ble_eq_true rfl) (by rw [List.drop_zero]; exact JO (by rw [List.length_append,aS,he32]; exact Nat.le_of_ble_eq_true rfl))) (fun a hF=>?_)
  refine dU hF O O O (aj rfl) (fun K hK=>aH hF O ae vw rfl rfl ?_)
  with_reducible refine (oU ea _ hT hTR hV hv5 ha5 hs5 hbl hcas (List.nil_subset _) hA7).mono ?_
  rintro e' w8 ⟨rfl,hA9⟩
  refine ⟨_,rfl,fun a hF=>hK _ _ ?_⟩
  replace hA9:Hp w0 ([row b1 31 ([.int .i64 ea.op,.int .i64 ea.num,.int .i64 ea.clk,ak ea.typ,ak ea.cas,ak ea.nam,.int .i64 ea.v.v.k,.int .i64 ea.v.v.n,ak ea.v.v.t,.slice ea.v.sA ea.v.v.s.length ea.v.sC,.slice ea.aA ea.args.length ea.aC,.slice ea.bA ea.src.length ea.bC]++dc ea.eff)]::[]) w8:=hA9
  refine aB hF O O O O (aj rfl) ae _ (cZ O O O) (fun a hF=>?_)
  refine vR hF<|vV O (aP O O O O)<|vE hK5<|vF1 O<|wKp hK4<|wT fun K6 hK6=>vX O<|vV O (yf 1 O JQ O gU O) fun a hF=>?_
  refine aI O (fun K hK=>bH hF O O hA9 O O 0 O (by simp) rfl gU (fun w10 hA11=>hK _ _ ?_))
  replace hA11:Hp w0 ([row b1 31 ([.int .i64 ea.op,.int .i64 nn,.int .i64 ea.clk,ak ea.typ,ak ea.cas,ak ea.nam,.int .i64 ea.v.v.k,.int .i64 ea.v.v.n,ak ea.v.v.t,.slice ea.v.sA ea.v.v.s.length ea.v.sC,.slice ea.aA ea.args.length ea.aC,.slice ea.bA ea.src.length ea.bC]++dc ea.eff)]::[]) w10:=hA11
  refine aJ<|hK6 _ _ ?_
  apply wp_seq_k; intro K7 hK7
  obtain ⟨eb,heb⟩:∃ e:EA,e=⟨ea.op,nn,ea.clk,ea.typ,ea.cas,ea.nam,ea.v,ea.args,ea.aA,ea.aC,ea.src,ea.bA,ea.bC,ea.eff⟩:=⟨_,rfl⟩
  have hVb:eb.Ok w0 []:=by rw [heb]; exact ⟨hV.v,hV.args,hV.rc,hV.n,hV.src,hV.sn,hV.i.1,hnn,hV.i.2.2⟩
  have heb32:eb.eff.length=32:=by rw [heb]; exact he32
  replace hv5:eb.v.v.s.length≤50000:=by rw [heb]; exact hv5
  replace ha5:eb.args.length≤50000:=by rw [heb]; exact ha5
  replace hs5:∀ a∈eb.args,a.v.s.length≤50000:=by rw [heb]; exact hs5
  replace hbl:eb.src.length≤140737488351232:=by rw [heb]; exact hbl
  replace hcas:eb.cas.length≤9223372036854775807:=by rw [heb]; exact hcas
  have hA12:Hp w0 ([row b1 31 ([.int .i64 eb.op,.int .i64 eb.num,.int .i64 eb.clk,ak eb.typ,ak eb.cas,ak eb.nam,.int .i64 eb.v.v.k,.int .i64 eb.v.v.n,ak eb.v.v.t,.slice eb.v.sA eb.v.v.s.length eb.v.sC,.slice eb.aA eb.args.length eb.aC,.slice eb.bA eb.src.length eb.bC]++dc eb.eff)]::[]) w10:=(by rw [heb]; exact hA11)
  refine wp_region_lit ?_
  refine vR hF<|vV O (bQ (new:=[.int .i64 eb.op,.int .i64 eb.num,.int .i64 eb.clk,ak eb.typ,ak eb.cas,ak eb.nam,.int .i64 eb.v.v.k,.int .i64 eb.v.v.n,ak eb.v.v.t,.slice eb.v.sA eb.v.v.s.length eb.v.sC,.slice eb.aA eb.args.length eb.aC,.slice eb.bA eb.src.length eb.bC]++dc eb.eff) rfl hA12.q O 0 O Ed (by rw [List.length_append,aS,heb32]; exact Nat.le_of_ble_eq_true rfl) (by rw [List.drop_zero]; exact JO (by rw [List.length_append,aS,heb32]; exact Nat.le_of_ble_eq_true rfl))) fun a hF=>?_
  refine aI O (fun K hK=>aH hF O ae vw rfl rfl ?_)
  with_reducible refine (oU eb _ hT hTR hVb hv5 ha5 hs5 hbl hcas (List.nil_subset _) hA12).mono ?_
  rintro e' w13 ⟨rfl,hA14⟩
  refine ⟨_,rfl,fun a hF=>hK _ _ ?_⟩
  replace hA14:Hp w0 ([row b1 31 ([.int .i64 eb.op,.int .i64 eb.num,.int .i64 eb.clk,ak eb.typ,ak eb.cas,ak eb.nam,.int .i64 eb.v.v.k,.int .i64 eb.v.v.n,ak eb.v.v.t,.slice eb.v.sA eb.v.v.s.length eb.v.sC,.slice eb.aA eb.args.length eb.aC,.slice eb.bA eb.src.length eb.bC]++dc eb.eff)]::[]) w13:=hA14
  refine vR hF<|vX O<|vE hK7 fun a hF=>?_
  apply wp_ret
  refine aK hF Tryz.results3 O ?_
  have hA15:Hp w0 ([]) w13:=hpS 1 [] [0] hA14 rfl
  exact ⟨rfl,hA15.at0⟩
 ·refine aF hF O hb ?_
  refine wp_seq_k fun K8 hK8=>wp_region_lit ?_
  refine aI O (fun K hK=>aH hF O ae vz rfl rfl ?_)
  with_reducible refine (uO _ hT hA5).mono ?_
  rintro e' w16 ⟨rfl,hA17⟩
  refine ⟨_,rfl,fun a hF=>hK _ _ ?_⟩
  replace hA17:Hp w0 ([row b1 31 ([.int .i64 ea.op,.int .i64 ea.num,.int .i64 ea.clk,ak ea.typ,ak ea.cas,ak ea.nam,.int .i64 ea.v.v.k,.int .i64 ea.v.v.n,ak ea.v.v.t,.slice ea.v.sA ea.v.v.s.length ea.v.sC,.slice ea.aA ea.args.length ea.aC,.slice ea.bA ea.src.length ea.bC]++dc ea.eff)]::[]) w16:=hA17
  refine vR hF<|vX O<|vE hK8 fun a hF=>?_
  apply wp_ret
  simp only [Exit.then]
  refine aK hF Tryz.results3 O ?_
  have hA18:Hp w0 ([]) w16:=hpS 1 [] [0] hA17 rfl
  exact ⟨rfl,hA18.at0⟩
end Go.Proofs.YtepbmdlgdaedpaaGreatDoor
