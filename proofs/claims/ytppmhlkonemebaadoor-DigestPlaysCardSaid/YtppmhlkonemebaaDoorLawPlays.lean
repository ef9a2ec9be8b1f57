/- The walk of DigestPlays. -/
import Derived.Test.YtppmhlkonemebaaDoorPl
import Derived.Test.YtppmhlkonemebaaDoorLawNames
namespace Go.Proofs.YtppmhlkonemebaaDoor
open Go.RowKit Go.Dk
theorem nr24_lp : notRow Tryd.prog 24 = true := by kernel_rfl
theorem nr28_lp : notRow Tryd.prog 28 = true := by kernel_rfl
theorem nr29_lp : notRow Tryd.prog 29 = true := by kernel_rfl
theorem nr32_lp : notRow Tryd.prog 32 = true := by kernel_rfl
theorem rw26_lp : isRow Tryd.prog 26 3 = true := by kernel_rfl
theorem sz5_lp : (Tryd.prog.info? 5).map (·.size) = some 1 := by kernel_rfl
theorem sz24_lp : (Tryd.prog.info? 24).map (·.size) = some 1 := by kernel_rfl
theorem sz26_lp : (Tryd.prog.info? 26).map (·.size) = some 3 := by kernel_rfl
theorem sz28_lp : (Tryd.prog.info? 28).map (·.size) = some 1 := by kernel_rfl
theorem sz29_lp : (Tryd.prog.info? 29).map (·.size) = some 1 := by kernel_rfl
theorem sz32_lp : (Tryd.prog.info? 32).map (·.size) = some 1 := by kernel_rfl
theorem cl12_lp : CallsTo Tryd.prog 12 := ⟨_, Tryd.func12, by kernel_rfl, by kernel_rfl⟩
theorem cl13_lp : CallsTo Tryd.prog 13 := ⟨_, Tryd.func13, by kernel_rfl, by kernel_rfl⟩
theorem cl14_lp : CallsTo Tryd.prog 14 := ⟨_, Tryd.func14, by kernel_rfl, by kernel_rfl⟩
theorem cl15_lp : CallsTo Tryd.prog 15 := ⟨_, Tryd.func15, by kernel_rfl, by kernel_rfl⟩
theorem cl16_lp : CallsTo Tryd.prog 16 := ⟨_, Tryd.func16, by kernel_rfl, by kernel_rfl⟩
theorem cl17_lp : CallsTo Tryd.prog 17 := ⟨_, Tryd.func17, by kernel_rfl, by kernel_rfl⟩
theorem cl18_lp : CallsTo Tryd.prog 18 := ⟨_, Tryd.func18, by kernel_rfl, by kernel_rfl⟩
theorem cl19_lp : CallsTo Tryd.prog 19 := ⟨_, Tryd.func19, by kernel_rfl, by kernel_rfl⟩


def stCost (o : StX) : Nat := 1 + 2 * o.p.length
theorem st_take_le (l : List StX) (i : Nat) : ((l.take i).map stCost).sum ≤ (l.map stCost).sum := by
  have h : l.map stCost = (l.take i).map stCost ++ (l.drop i).map stCost := by rw [← List.map_append, List.take_append_drop]
  rw [h, List.sum_append]; omega
def litS (g : Nat) : Seg := [(g, .cells (dc lit0).toArray 5 ((dc lit0).toArray.size, (dc lit0).toArray.size + 1))]
theorem Rd.ofLit {w0 : World} {R : List Seg} {g : Nat} (h : litS g ∈ R) : Rd w0 R (some ⟨g, 0, none⟩) lit0 := fun _ => ⟨g, 0, rfl, fun x hx => by
  have h1 := hx.mem h (r := (g, .cells (dc lit0).toArray 5 ((dc lit0).toArray.size, (dc lit0).toArray.size + 1))) (List.mem_cons_self ..)
  refine ⟨(Array.getElem?_eq_some_iff.1 h1).1, fun j hj => ?_⟩
  rw [cell_of_row x g (0 + j) _ _ _ h1, Nat.zero_add, List.getElem?_toArray]⟩
theorem hs_mark {P : Program} {Q : Exit → Act → World → Prop} {w w0 : World} {n : Nat} {F : List (Nat × Value)} {a : Act} {o : Oper} {d : Nat} {K : Act → World → Prop} {S : List Seg} {t : TypeId} {x : Operand} {l : List UInt8} (hF : Fr n F a) (hd : o.dst = some d) (hlt : d < n) (ho : o.op = .convert t t x) (hA : Hp w0 S w) (hu : P.underlying t = some (.slice 5)) (he : P.underlying 5 = some (.int .u8)) {m c : Nat} (hx : ev F x = some (.slice (some ⟨w.heap.size, 0, none⟩) m c))
    (h : ∀ g w' a', Fr n ((d, .slice (some ⟨g, 0, none⟩) m c) :: F) a' → Hp w0 ([(g, .cells (dc l).toArray 5 ((dc l).toArray.size, (dc l).toArray.size + 1))] :: S) w' → K a' w') : o.wp P a (w.alloc (.cells (dc l).toArray 5)) K Q := by
  have hr := Lib.run_convert_bytes_const (P := P) w t 5 (dc l).toArray m c hu he
  have h1 := h w.heap.size _ _ (hF.put hlt) (Hl.obj hA (.cells (dc l).toArray 5 ((dc l).toArray.size, (dc l).toArray.size + 1)))
  unfold Oper.wp execOp
  simp only [ho, hF.ev hx, Sem.run_bind, hr, Result.andThen_ok, Sem.run_pure]
  rw [← hd] at h1
  exact h1
def stSum : StX := ⟨3, 0, [], none, 0⟩
def stTwo (g : Nat) : StX := ⟨2, 0, [1, 2], some ⟨g, 0, none⟩, 2⟩
theorem stSum_p {w0 : World} {R : List Seg} : Rd w0 R stSum.pA stSum.p := Rc.nil
theorem stSum_c : stSum.p.length ≤ stSum.pC := Nat.le_refl 0
theorem stTwo_p {w0 : World} {R : List Seg} {g : Nat} (h : Rd w0 R (some ⟨g, 0, none⟩) [1, 2]) : Rd w0 R (stTwo g).pA (stTwo g).p := h
theorem stTwo_c {g : Nat} : (stTwo g).p.length ≤ (stTwo g).pC := Nat.le_refl 2
theorem stTwo_b {g : Nat} : 0 + 2 * (stTwo g).p.length < 70368744177664 := (show 0 + 2 * 2 < 70368744177664 by decide)
theorem stTwo_t {g : Nat} : 0 + 2 * (stTwo g).p.length ≤ 100 := (show 0 + 2 * 2 ≤ 100 by decide)
theorem px_none {T : Nat} : ∀ q ∈ ([] : List PX), PXok T q := fun q h => by cases h
theorem lp_build0 (w : World) : (Instr.build 31 #[]).run Tryd.prog w = .ok (.agg ([.slice none 0 0, .slice none 0 0, .int .i64 0] : List Value).toArray) w := by kernel_rfl
theorem lp_build1 (w : World) : (Instr.build 26 #[(0, .int .i64 3)]).run Tryd.prog w = .ok (.agg (stC stSum).toArray) w := by kernel_rfl
theorem lp_build2 (g : Nat) (w : World) : (Instr.build 26 #[(0, .int .i64 2), (2, .slice (some ⟨g, 0, none⟩) 2 2)]).run Tryd.prog w = .ok (.agg (stC (stTwo g)).toArray) w := by kernel_rfl
theorem lp_bs2 (w : World) : (Instr.buildSlice 24 2 #[(0, .int .u8 1), (1, .int .u8 2)]).run Tryd.prog w = .ok (.slice (some ⟨w.heap.size, 0, none⟩) 2 2) (w.alloc (.cells (dc [1, 2]).toArray 5)) := by kernel_rfl

set_option maxRecDepth 100000 in
set_option maxHeartbeats 4000000 in
theorem law_plays (w0 : World) (sA : Option Addr) (sC : Nat) (os : List StX) (hT : Tab w0) (hOs : ∀ o ∈ os, Rd w0 [] o.pA o.p ∧ o.p.length ≤ o.pC ∧ o.p.length ≤ 9223372036854775806) (hS : Rc w0 [] sA (os.map stC).flatten) (hn : os.length ≤ 9223372036854775807) : Calls Tryd.prog 3 #[.slice sA os.length sC] w0 fun e w' => e = .returned (.bool true) ∧ At w0 [] w' := by
  have hA : Hp w0 [] w0 := Hp.start w0
  refine vc_enter Tryd.func3 rfl Tryd.ntmps3 (Nat.le_of_ble_eq_true rfl) (fun a hF => ?_)
  apply wp_seq_k; intro K1 hK1
  refine wp_region_lit ?_
  refine vc_y hF rfl rfl (by decide) _ (y_assign rfl rfl) (fun a hF => ?_)
  refine vc_nil ?_
  refine hK1 _ _ ?_; clear  hK1 K1
  apply wp_seq_k; intro K2 hK2
  refine wp_region_lit ?_
  refine vc_y hF rfl rfl (by decide) _ (y_assign rfl rfl) (fun a hF => ?_)
  refine vc_nil ?_
  refine hK2 _ _ ?_; clear  hK2 K2
  apply wp_seq_k; intro K3 hK3
  apply wp_seq_k; intro K4 hK4
  refine wp_region_lit ?_
  refine vc_y hF rfl rfl (by decide) _ (y_assign rfl rfl) (fun a hF => ?_)
  refine vc_nil ?_
  refine hK4 _ _ ?_; clear  hK4 K4
  apply wp_block
  refine vc_loop (G := Nat) (fun i a x => ∃ (z : Int), i ≤ os.length ∧ (-1 ≤ z ∧ z ≤ 2147483647) ∧ (0 ≤ z → z = 2147483647 - ((os.take i).map stCost).sum) ∧ Fr 113 [(4, .int .i64 (i : Int)), (3, .int .i64 z), (0, .slice sA os.length sC)] a ∧ Hp w0 ([]) x) (fun i => os.length - i) 0 (⟨2147483647, Nat.zero_le _, by decide, fun _ => by simp, hF.keep [4, 3, 0] rfl, hA⟩) ?_
  clear hF
  rintro i a w2 ⟨z, hi, hz, hzs, hF, hA1⟩
  by_cases hlt : i < os.length
  · by_cases hz0 : 0 ≤ z
    · obtain ⟨o, ho⟩ : ∃ o, os[i]? = some o := ⟨_, List.getElem?_eq_getElem hlt⟩
      obtain ⟨hoP, hoC, hoL⟩ := hOs o (List.mem_of_getElem? ho)
      obtain ⟨hat, hle⟩ := Go.Dk.flat_at (z := 3) (Ws := os.map stC) (V := stC o) (i := i) (fun V hV => by obtain ⟨u, _, rfl⟩ := List.mem_map.1 hV; rfl) (by rw [List.getElem?_map, ho]; rfl)
      obtain ⟨b, q, rfl, hc⟩ := hS.ne (i := i * 3) (by omega)
      have hsum : ((os.take (i + 1)).map stCost).sum = ((os.take i).map stCost).sum + stCost o := by rw [List.take_add_one, ho]; simp
      have hco : stCost o = 1 + 2 * o.p.length := rfl
      have hcell : ∀ j u, (stC o)[j]? = some u → (os.map stC).flatten[i * 3 + j]? = some u := fun j u hj => by
        have hj3 : j < 3 := (List.getElem?_eq_some_iff.1 hj).1
        rw [← hat, List.getElem?_take, if_pos hj3, List.getElem?_drop] at hj
        exact hj
      apply wp_seq_k; intro K5 hK5
      apply wp_seq_k; intro K6 hK6
      refine wp_region_lit ?_
      refine vc_y hF rfl rfl (by decide) _ (y_move rfl rfl) (fun a hF => ?_)
      refine vc_y hF rfl rfl (by decide) _ (y_move rfl rfl) (fun a hF => ?_)
      refine vc_y hF rfl rfl (by decide) _ (y_lenSl rfl Tryd.underlying22 rfl rfl) (fun a hF => ?_)
      refine vc_y hF rfl rfl (by decide) _ (y_cmp rfl rfl rfl rfl (lss_t (by omega))) (fun a hF => ?_)
      refine vc_y hF rfl rfl (by decide) _ (y_move rfl rfl) (fun a hF => ?_)
      refine vc_yg hF rfl rfl rfl rfl rfl (by decide) _ (y_move rfl rfl) (fun a hF => ?_)
      refine vc_yg hF rfl rfl rfl rfl rfl (by decide) _ (y_cmp rfl rfl rfl rfl (geq_t (by omega))) (fun a hF => ?_)
      refine vc_y hF rfl rfl (by decide) _ (y_pick rfl rfl rfl) (fun a hF => ?_)
      refine vc_nil ?_
      refine hK6 _ _ ?_; clear  hK6 K6
      refine vc_true hF rfl ?_
      apply wp_skip
      refine hK5 _ _ ?_; clear  hK5 K5
      apply wp_seq_k; intro K7 hK7
      apply wp_block
      refine wp_region_plan 16 [8,15,16] [0,1,2,3,4,5,6,7,9,10,11,12,13,14,8,15,16] (fun x => Hq w0 ([]) x) (by kernel_rfl) (by kernel_rfl) (Hq.drew (Hp.qp [] [] [] hA1)) ?_
      have hA3 := Hl.drew hA1
      refine vp_y hF rfl rfl rfl rfl (by decide) _ (fun x hx => y_move rfl rfl) (fun a hF => ?_)
      refine vp_y hF rfl rfl rfl rfl (by decide) _ (fun x hx => y_move rfl rfl) (fun a hF => ?_)
      refine vp_y hF rfl rfl rfl rfl (by decide) _ (fun x hx => y_move rfl rfl) (fun a hF => ?_)
      refine vp_y hF rfl rfl rfl rfl (by decide) _ (fun x hx => y_ixSl rfl Tryd.underlying22 sz26_lp rfl rfl i rfl hlt rfl) (fun a hF => ?_)
      refine vp_y hF rfl rfl rfl rfl (by decide) _ (fun x hx => y_field rfl Tryd.underlying26 rfl sz24_lp (by decide) rfl rfl) (fun a hF => ?_)
      refine vp_y hF rfl rfl rfl rfl (by decide) _ (fun x hx => y_ldC (u := .slice o.pA o.p.length o.pC) rfl hx rfl hc (i * 3 + 2) (by omega) (Nat.add_assoc _ _ _) (hcell 2 _ rfl) nr24_lp) (fun a hF => ?_)
      refine vp_y hF rfl rfl rfl rfl (by decide) _ (fun x hx => y_lenSl rfl Tryd.underlying24 rfl rfl) (fun a hF => ?_)
      refine vp_y hF rfl rfl rfl rfl (by decide) _ (fun x hx => y_add rfl rfl rfl (IntWalk.i64_in _ (by omega))) (fun a hF => ?_)
      refine vp_y hF rfl rfl rfl rfl (by decide) _ (fun x hx => y_move rfl rfl) (fun a hF => ?_)
      refine vp_y hF rfl rfl rfl rfl (by decide) _ (fun x hx => y_move rfl rfl) (fun a hF => ?_)
      refine vp_y hF rfl rfl rfl rfl (by decide) _ (fun x hx => y_ixSl rfl Tryd.underlying22 sz26_lp rfl rfl i rfl hlt rfl) (fun a hF => ?_)
      refine vp_y hF rfl rfl rfl rfl (by decide) _ (fun x hx => y_field rfl Tryd.underlying26 rfl sz24_lp (by decide) rfl rfl) (fun a hF => ?_)
      refine vp_y hF rfl rfl rfl rfl (by decide) _ (fun x hx => y_ldC (u := .slice o.pA o.p.length o.pC) rfl hx rfl hc (i * 3 + 2) (by omega) (Nat.add_assoc _ _ _) (hcell 2 _ rfl) nr24_lp) (fun a hF => ?_)
      refine vp_y hF rfl rfl rfl rfl (by decide) _ (fun x hx => y_lenSl rfl Tryd.underlying24 rfl rfl) (fun a hF => ?_)
      refine vp_l rfl rfl rfl (fun K hK => ws_call hF rfl (by decide) cl12_lp rfl rfl ?_)
      with_reducible refine (bk_room w2.drew z ((1) + (o.p.length)) (by omega) (by omega) ).mono ?_
      rintro e' w7 ⟨rfl, rfl⟩
      refine ⟨_, rfl, fun a hF => hK _ _ (fun _ => ?_) ?_⟩
      · exact Hp.qp [] [] [] hA3
      clear hK K
      have hz4 := roomI_ge (left := z) (n := (1) + (o.p.length)) (by omega) (by omega)
      generalize hz4e : roomI z ((1) + (o.p.length)) = z4 at hF hz4
      refine vp_l rfl rfl rfl (fun K hK => ws_call hF rfl (by decide) cl12_lp rfl rfl ?_)
      with_reducible refine (bk_room w2.drew z4 o.p.length (by omega) (by omega) ).mono ?_
      rintro e' w11 ⟨rfl, rfl⟩
      refine ⟨_, rfl, fun a hF => hK _ _ (fun _ => ?_) ?_⟩
      · exact Hp.qp [] [] [] hA3
      clear hK K
      have hz8 := roomI_ge (left := z4) (n := o.p.length) (by omega) (by omega)
      generalize hz8e : roomI z4 o.p.length = z8 at hF hz8
      refine vp_ly hF rfl rfl rfl rfl (by decide) _ (y_assign rfl rfl) (fun h => absurd h (by decide)) (fun a hF => ?_)
      refine plan_end ?_
      refine hK7 _ _ ?_; clear  hK7 K7
      refine wp_region_lit ?_
      refine vc_y hF rfl rfl (by decide) _ (y_move rfl rfl) (fun a hF => ?_)
      refine vc_y hF rfl rfl (by decide) _ (y_add rfl rfl rfl (IntWalk.i64_in _ (by omega))) (fun a hF => ?_)
      refine vc_y hF rfl rfl (by decide) _ (y_assign rfl rfl) (fun a hF => ?_)
      refine vc_nil ?_
      exact ⟨i + 1, by omega, _, by omega, by omega, fun h => by rw [hsum]; omega, hF.keep [4, 3, 0] rfl, hA3⟩
    · apply wp_seq_k; intro K8 hK8
      apply wp_seq_k; intro K9 hK9
      refine wp_region_lit ?_
      refine vc_y hF rfl rfl (by decide) _ (y_move rfl rfl) (fun a hF => ?_)
      refine vc_y hF rfl rfl (by decide) _ (y_move rfl rfl) (fun a hF => ?_)
      refine vc_y hF rfl rfl (by decide) _ (y_lenSl rfl Tryd.underlying22 rfl rfl) (fun a hF => ?_)
      refine vc_y hF rfl rfl (by decide) _ (y_cmp rfl rfl rfl rfl (lss_t (by omega))) (fun a hF => ?_)
      refine vc_y hF rfl rfl (by decide) _ (y_move rfl rfl) (fun a hF => ?_)
      refine vc_yg hF rfl rfl rfl rfl rfl (by decide) _ (y_move rfl rfl) (fun a hF => ?_)
      refine vc_yg hF rfl rfl rfl rfl rfl (by decide) _ (y_cmp rfl rfl rfl rfl (geq_f (by omega))) (fun a hF => ?_)
      refine vc_y hF rfl rfl (by decide) _ (y_pick rfl rfl rfl) (fun a hF => ?_)
      refine vc_nil ?_
      refine hK9 _ _ ?_; clear  hK9 K9
      refine vc_false hF rfl ?_
      apply wp_exit
      refine hK3 _ _ ?_; clear hK8 K8 hK3 K3
      apply wp_seq_k; intro K10 hK10
      apply wp_seq_k; intro K11 hK11
      refine wp_region_lit ?_
      refine vc_y hF rfl rfl (by decide) _ (y_move rfl rfl) (fun a hF => ?_)
      refine vc_y hF rfl rfl (by decide) _ (y_cmp rfl rfl rfl rfl rfl) (fun a hF => ?_)
      refine vc_nil ?_
      refine hK11 _ _ ?_; clear  hK11 K11
      refine vc_trueB hF rfl (lss_t (by omega)) ?_
      apply wp_seq_k; intro K12 hK12
      refine wp_region_lit ?_
      refine vc_y hF rfl rfl (by decide) _ (y_assign rfl rfl) (fun a hF => ?_)
      refine vc_nil ?_
      refine hK12 _ _ ?_; clear  hK12 K12
      apply wp_ret
      simp only [Exit.then]
      refine vc_ret1 hF Tryd.results3 rfl ?_
      exact ⟨rfl, hA1.at0⟩
  · obtain rfl : i = os.length := by omega
    rw [List.take_length] at hzs
    apply wp_seq_k; intro K13 hK13
    apply wp_seq_k; intro K14 hK14
    refine wp_region_lit ?_
    refine vc_y hF rfl rfl (by decide) _ (y_move rfl rfl) (fun a hF => ?_)
    refine vc_y hF rfl rfl (by decide) _ (y_move rfl rfl) (fun a hF => ?_)
    refine vc_y hF rfl rfl (by decide) _ (y_lenSl rfl Tryd.underlying22 rfl rfl) (fun a hF => ?_)
    refine vc_y hF rfl rfl (by decide) _ (y_cmp rfl rfl rfl rfl (lss_f (by omega))) (fun a hF => ?_)
    refine vc_y hF rfl rfl (by decide) _ (y_move rfl rfl) (fun a hF => ?_)
    refine vc_skip hF rfl rfl rfl rfl rfl rfl (by decide) (fun a hF => ?_)
    refine vc_skip hF rfl rfl rfl rfl rfl rfl (by decide) (fun a hF => ?_)
    refine vc_y hF rfl rfl (by decide) _ (y_pick rfl rfl rfl) (fun a hF => ?_)
    refine vc_nil ?_
    refine hK14 _ _ ?_; clear  hK14 K14
    refine vc_false hF rfl ?_
    apply wp_exit
    refine hK3 _ _ ?_; clear hK13 K13 hK3 K3
    apply wp_seq_k; intro K15 hK15
    apply wp_seq_k; intro K16 hK16
    refine wp_region_lit ?_
    refine vc_y hF rfl rfl (by decide) _ (y_move rfl rfl) (fun a hF => ?_)
    refine vc_y hF rfl rfl (by decide) _ (y_cmp rfl rfl rfl rfl rfl) (fun a hF => ?_)
    refine vc_nil ?_
    refine hK16 _ _ ?_; clear  hK16 K16
    by_cases hz0 : z < 0
    · refine vc_trueB hF rfl (lss_t (by omega)) ?_
      apply wp_seq_k; intro K17 hK17
      refine wp_region_lit ?_
      refine vc_y hF rfl rfl (by decide) _ (y_assign rfl rfl) (fun a hF => ?_)
      refine vc_nil ?_
      refine hK17 _ _ ?_; clear  hK17 K17
      apply wp_ret
      simp only [Exit.then]
      refine vc_ret1 hF Tryd.results3 rfl ?_
      exact ⟨rfl, hA1.at0⟩
    · refine vc_falseB hF rfl (lss_f (by omega)) ?_
      have hsm : (os.map stCost).sum ≤ 2147483647 := by have := hzs (by omega); omega
      apply wp_skip
      refine hK15 _ _ ?_; clear  hK15 K15
      apply wp_seq_k; intro K18 hK18
      refine wp_region_lit ?_
      refine vc_y hF rfl rfl (by decide) _ (y_build (qs := #[]) rfl rfl lp_build0) (fun a hF => ?_)
      refine vc_op rfl (fun K hK => hs_box (cs := [.slice none 0 0, .slice none 0 0, .int .i64 0]) hF rfl (by decide) rfl hA1 rfl (fun b12 w13 a hb12 hF hA14 => hK _ _ ?_))
      clear hK K
      replace hA14 : Hp w0 ([row b12 31 [.slice none 0 0, .slice none 0 0, .int .i64 0]] :: []) w13 := hA14
      refine vc_y hF rfl rfl (by decide) _ (y_assign rfl rfl) (fun a hF => ?_)
      refine vc_nil ?_
      refine hK18 _ _ ?_; clear  hK18 K18
      apply wp_seq_k; intro K19 hK19
      refine wp_region_lit ?_
      refine vc_op rfl (fun K hK => ws_call hF rfl (by decide) cl13_lp rfl rfl ?_)
      with_reducible refine (hc_new w0 _ _ hA14 ).mono ?_
      rintro e' w15 ⟨hn1, Yn, rfl, hHn, hA16⟩
      refine ⟨_, rfl, fun a hF => hK _ _ ?_⟩
      clear hK K
      replace hA16 : Hp w0 (Yn :: [row b12 31 [.slice none 0 0, .slice none 0 0, .int .i64 0]] :: []) w15 := hA16
      refine vc_y hF rfl rfl (by decide) _ (y_assign rfl rfl) (fun a hF => ?_)
      refine vc_nil ?_
      refine hK19 _ _ ?_; clear  hK19 K19
      apply wp_seq_k; intro K20 hK20
      apply wp_seq_k; intro K21 hK21
      refine wp_region_lit ?_
      refine vc_y hF rfl rfl (by decide) _ (y_move rfl rfl) (fun a hF => ?_)
      refine vc_y hF rfl rfl (by decide) _ (y_eqNil rfl (by kernel_rfl) rfl rfl) (fun a hF => ?_)
      refine vc_nil ?_
      refine hK21 _ _ ?_; clear  hK21 K21
      refine vc_false hF rfl ?_
      apply wp_skip
      refine hK20 _ _ ?_; clear  hK20 K20
      apply wp_seq_k; intro K22 hK22
      refine wp_region_lit ?_
      refine vc_y hF rfl rfl (by decide) _ (y_move rfl rfl) (fun a hF => ?_)
      refine vc_op rfl (fun K hK => ws_bytes hF rfl (by decide) rfl (At.refl _) Tryd.underlying24 bk_byte5 lit0 len0 (by decide) (by decide) (by kernel_rfl) (fun gl a _ _ hF => hK _ _ ?_))
      clear hK K
      refine vc_op rfl (fun K hK => hs_mark (l := lit0) hF rfl (by decide) rfl hA16 Tryd.underlying24 Tryd.underlying5 rfl (fun gm w17 a hF hA18 => hK _ _ ?_))
      clear hK K
      replace hA18 : Hp w0 ((litS gm) :: Yn :: [row b12 31 [.slice none 0 0, .slice none 0 0, .int .i64 0]] :: []) w17 := hA18
      have hA19 : Hp w0 (Yn :: (litS gm) :: [row b12 31 [.slice none 0 0, .slice none 0 0, .int .i64 0]] :: []) w17 := Hp.ord [(litS gm), Yn, [row b12 31 [.slice none 0 0, .slice none 0 0, .int .i64 0]]] [] [1, 0, 2] hA18 rfl
      refine vc_op rfl (fun K hK => ws_call hF rfl (by decide) cl14_lp rfl rfl ?_)
      with_reducible refine (hc_writeN w0 _ ((litS gm) :: [row b12 31 [.slice none 0 0, .slice none 0 0, .int .i64 0]] :: []) hn1 [] Yn (some ⟨gm, 0, none⟩) lit0 28 28 len0 hT hHn (Rd.ofLit ((List.mem_cons_self ..))) (by rw [← len0]; exact Nat.le_refl _) hA19 (by rw [← len0]; decide) ).mono ?_
      rintro e' w20 ⟨Yn2, rfl, hHn2, hA21⟩
      refine ⟨_, rfl, fun a hF => hK _ _ ?_⟩
      clear hK K
      replace hA21 : Hp w0 (Yn2 :: (litS gm) :: [row b12 31 [.slice none 0 0, .slice none 0 0, .int .i64 0]] :: []) w20 := hA21
      refine vc_nil ?_
      refine hK22 _ _ ?_; clear  hK22 K22
      apply wp_seq_k; intro K23 hK23
      rw [List.nil_append] at hHn2
      refine wp_region_lit ?_
      refine vc_y hF rfl rfl (by decide) _ (y_move rfl rfl) (fun a hF => ?_)
      refine vc_op rfl (fun K hK => ws_call hF rfl (by decide) cl15_lp rfl rfl ?_)
      with_reducible refine (hc_sum w0 _ _ hn1 lit0 Yn2 hT hHn2 hA21 (by rw [← len0]; decide) ).mono ?_
      rintro e' w22 ⟨rfl, hA23⟩
      refine ⟨_, rfl, fun a hF => hK _ _ ?_⟩
      clear hK K
      replace hA23 : Hp w0 (Yn2 :: (litS gm) :: [row b12 31 [.slice none 0 0, .slice none 0 0, .int .i64 0]] :: []) w22 := hA23
      rw [hx0_eq] at hF
      refine vc_op rfl (fun K hK => ws_call hF rfl (by decide) cl16_lp rfl rfl ?_)
      with_reducible refine (written_any w22 hx0 rfl ).mono ?_
      rintro e' w24 ⟨rfl, hc⟩
      have hA25 := Hp.then0 hA23 hc
      clear hc
      refine ⟨_, rfl, fun a hF => hK _ _ ?_⟩
      clear hK K
      refine vc_y hF rfl rfl (by decide) _ (y_eqB rfl Tryd.underlying36 Tryd.underlying5 sz5_lp (by kernel_rfl) rfl rfl (writtenL_length _) (writtenL_length _) (decide_eq_true rfl)) (fun a hF => ?_)
      refine vc_y hF rfl rfl (by decide) _ (y_move rfl rfl) (fun a hF => ?_)
      refine vc_yg hF rfl rfl rfl rfl rfl (by decide) _ (y_move rfl rfl) (fun a hF => ?_)
      have hA26 : Hp w0 ([row b12 31 [.slice none 0 0, .slice none 0 0, .int .i64 0]] :: []) w24 := Hp.sel [Yn2, (litS gm), [row b12 31 [.slice none 0 0, .slice none 0 0, .int .i64 0]]] [] [2] [0, 1] hA25 rfl
      have hA27 : Hp w0 ([row b12 31 [.slice none 0 0, .slice none 0 0, .int .i64 ((0 : Nat) : Int)]] :: ([] : Seg) :: ([] : Seg) :: ((([] : List PX).map pxS).flatten) :: []) w24 := hA26
      refine vc_opg hF rfl rfl rfl rfl (fun K hK => ws_call hF rfl (by decide) cl13_lp rfl rfl ?_)
      with_reducible refine (hc_new w0 _ _ hA27 ).mono ?_
      rintro e' w28 ⟨hn2, YH, rfl, hHy, hA29⟩
      refine ⟨_, rfl, fun a hF => hK _ _ ?_⟩
      clear hK K
      replace hA29 : Hp w0 (YH :: [row b12 31 [.slice none 0 0, .slice none 0 0, .int .i64 ((0 : Nat) : Int)]] :: ([] : Seg) :: ([] : Seg) :: ((([] : List PX).map pxS).flatten) :: []) w28 := hA29
      refine vc_opg hF rfl rfl rfl rfl (fun K hK => ws_call hF rfl (by decide) cl17_lp rfl rfl ?_)
      with_reducible refine (pl_joinsN w0 _ [] b12 0 0 [] (.slice none 0 0) (.slice none 0 0) [] [] px_none (Buf.nil _ _) (Buf.nil _ _) hn2 [] YH hHy none 0 0 rfl Rc.nil (Nat.le_refl _) (by decide) (by decide) (by decide) hA29 ).mono ?_
      rintro e' w30 ⟨Y0, rfl, hrow0, hA31⟩
      refine ⟨_, rfl, fun a hF => hK _ _ ?_⟩
      clear hK K
      replace hA31 : Hp w0 (Y0 :: []) w30 := hA31
      have hrow : RowOK b12 1 0 0 Y0 := hrow0
      refine vc_y hF rfl rfl (by decide) _ (y_pick rfl rfl rfl) (fun a hF => ?_)
      refine vc_y hF rfl rfl (by decide) _ (y_move rfl rfl) (fun a hF => ?_)
      refine vc_yg hF rfl rfl rfl rfl rfl (by decide) _ (y_move rfl rfl) (fun a hF => ?_)
      refine vc_yg hF rfl rfl rfl rfl rfl (by decide) _ (y_build (qs := #[(0, .int .i64 3)]) rfl rfl lp_build1) (fun a hF => ?_)
      refine vc_opg hF rfl rfl rfl rfl (fun K hK => ws_call hF rfl (by decide) cl18_lp rfl rfl ?_)
      with_reducible refine (pl_plays w0 _ [] b12 1 0 0 _ stSum hT stSum_p stSum_c hrow (by decide) (by decide) (by decide) (by decide) hA31 ).mono ?_
      rintro e' w32 ⟨n1, held1, Y1, rfl, hn1b, hheld1, hrow1, hA33⟩
      refine ⟨_, rfl, fun a hF => hK _ _ ?_⟩
      clear hK K
      replace hA33 : Hp w0 (Y1 :: []) w32 := hA33
      replace hrow1 : RowOK b12 n1 0 held1 Y1 := hrow1
      refine vc_y hF rfl rfl (by decide) _ (y_pick rfl rfl rfl) (fun a hF => ?_)
      refine vc_y hF rfl rfl (by decide) _ (y_move rfl rfl) (fun a hF => ?_)
      refine vc_yg hF rfl rfl rfl rfl rfl (by decide) _ (y_move rfl rfl) (fun a hF => ?_)
      refine vc_opg hF rfl rfl rfl rfl (fun K hK => hs_bs (qs := #[(0, .int .u8 1), (1, .int .u8 2)]) (cells := (dc [1, 2]).toArray) hF rfl (by decide) rfl hA33 rfl lp_bs2 (fun g2 w34 a hg2 hF hA35 => hK _ _ ?_))
      clear hK K
      replace hA35 : Hp w0 ([row g2 5 (dc [1, 2])] :: Y1 :: []) w34 := hA35
      refine vc_yg hF rfl rfl rfl rfl rfl (by decide) _ (y_build (qs := #[(0, .int .i64 2), (2, .slice (some ⟨g2, 0, none⟩) 2 2)]) rfl rfl (lp_build2 g2)) (fun a hF => ?_)
      have hA36 : Hp w0 (Y1 :: [row g2 5 (dc [1, 2])] :: []) w34 := Hp.ord [[row g2 5 (dc [1, 2])], Y1] [] [1, 0] hA35 rfl
      refine vc_opg hF rfl rfl rfl rfl (fun K hK => ws_call hF rfl (by decide) cl18_lp rfl rfl ?_)
      with_reducible refine (pl_plays w0 _ ([row g2 5 (dc [1, 2])] :: []) b12 n1 0 held1 _ (stTwo g2) hT (stTwo_p (Rc.ofRow (i := 0) (off := 0) rfl rfl)) stTwo_c hrow1 (by omega) hn1b.2 hheld1 stTwo_b hA36 ).mono ?_
      rintro e' w37 ⟨n2, held2, Y2, rfl, hn2b, hheld2, hrow2, hA38⟩
      refine ⟨_, rfl, fun a hF => hK _ _ ?_⟩
      clear hK K
      replace hA38 : Hp w0 (Y2 :: [row g2 5 (dc [1, 2])] :: []) w37 := hA38
      replace hrow2 := hrow2.mono (T' := 100) stTwo_t
      refine vc_y hF rfl rfl (by decide) _ (y_pick rfl rfl rfl) (fun a hF => ?_)
      refine vc_y hF rfl rfl (by decide) _ (y_assign rfl rfl) (fun a hF => ?_)
      refine vc_nil ?_
      refine hK23 _ _ ?_; clear  hK23 K23
      apply wp_seq_k; intro K24 hK24
      apply wp_seq_k; intro K25 hK25
      refine wp_region_lit ?_
      refine vc_y hF rfl rfl (by decide) _ (y_move rfl rfl) (fun a hF => ?_)
      refine vc_y hF rfl rfl (by decide) _ (y_not rfl rfl rfl) (fun a hF => ?_)
      refine vc_nil ?_
      refine hK25 _ _ ?_; clear  hK25 K25
      refine vc_false hF rfl ?_
      apply wp_skip
      refine hK24 _ _ ?_; clear  hK24 K24
      apply wp_seq_k; intro K26 hK26
      apply wp_seq_k; intro K27 hK27
      refine wp_region_lit ?_
      refine vc_y hF rfl rfl (by decide) _ (y_assign rfl rfl) (fun a hF => ?_)
      refine vc_nil ?_
      refine hK27 _ _ ?_; clear  hK27 K27
      apply wp_block
      have hA39 : Hp w0 (Y2 :: []) w37 := Hp.sel [Y2, [row g2 5 (dc [1, 2])]] [] [0] [1] hA38 rfl
      refine vc_loop (G := Nat) (fun i a x => ∃ (n : Nat) (held : Nat) (Y : Seg), i ≤ os.length ∧ (0 < n ∧ n ≤ 1000) ∧ held ≤ 4000000 ∧ RowOK b12 n (100 + ((os.take i).map stCost).sum) held Y ∧ Fr 113 [(8, .int .i64 (i : Int)), (0, .slice sA os.length sC), (5, .pointer (some ⟨b12, 0, none⟩))] a ∧ Hp w0 (Y :: []) x) (fun i => os.length - i) 0 (⟨n2, held2, _, Nat.zero_le _, ⟨by omega, hn2b.2⟩, hheld2, hrow2, hF.keep [8, 0, 5] rfl, hA39⟩) ?_
      clear hF
      rintro i a w41 ⟨n, held, Y, hi, hn, hheld, hrow, hF, hA40⟩
      apply wp_seq_k; intro K28 hK28
      apply wp_seq_k; intro K29 hK29
      refine wp_region_lit ?_
      refine vc_y hF rfl rfl (by decide) _ (y_move rfl rfl) (fun a hF => ?_)
      refine vc_y hF rfl rfl (by decide) _ (y_move rfl rfl) (fun a hF => ?_)
      refine vc_y hF rfl rfl (by decide) _ (y_lenSl rfl Tryd.underlying22 rfl rfl) (fun a hF => ?_)
      refine vc_y hF rfl rfl (by decide) _ (y_cmp rfl rfl rfl rfl rfl) (fun a hF => ?_)
      refine vc_nil ?_
      refine hK29 _ _ ?_; clear  hK29 K29
      by_cases hlt : i < os.length
      · refine vc_trueB hF rfl (lss_t (by omega)) ?_
        obtain ⟨o, ho⟩ : ∃ o, os[i]? = some o := ⟨_, List.getElem?_eq_getElem hlt⟩
        obtain ⟨hoP, hoC, hoL⟩ := hOs o (List.mem_of_getElem? ho)
        obtain ⟨hat, hle⟩ := Go.Dk.flat_at (z := 3) (Ws := os.map stC) (V := stC o) (i := i) (fun V hV => by obtain ⟨u, _, rfl⟩ := List.mem_map.1 hV; rfl) (by rw [List.getElem?_map, ho]; rfl)
        obtain ⟨b, q, rfl, hc⟩ := hS.ne (i := i * 3) (by omega)
        have hsum : ((os.take (i + 1)).map stCost).sum = ((os.take i).map stCost).sum + stCost o := by rw [List.take_add_one, ho]; simp
        have hco : stCost o = 1 + 2 * o.p.length := rfl
        have hsl := st_take_le os (i + 1)
        apply wp_skip
        refine hK28 _ _ ?_; clear  hK28 K28
        apply wp_seq_k; intro K30 hK30
        apply wp_block
        apply wp_seq_k; intro K31 hK31
        refine wp_region_lit ?_
        refine vc_y hF rfl rfl (by decide) _ (y_move rfl rfl) (fun a hF => ?_)
        refine vc_y hF rfl rfl (by decide) _ (y_move rfl rfl) (fun a hF => ?_)
        refine vc_y hF rfl rfl (by decide) _ (y_move rfl rfl) (fun a hF => ?_)
        refine vc_y hF rfl rfl (by decide) _ (y_ixSl rfl Tryd.underlying22 sz26_lp rfl rfl i rfl hlt rfl) (fun a hF => ?_)
        refine vc_y hF rfl rfl (by decide) _ (y_ldRowC (new := stC o) rfl (Hq.sub hA40.q (List.nil_subset _)) rfl hc (i * 3) hle rfl hat rw26_lp) (fun a hF => ?_)
        refine vc_op rfl (fun K hK => ws_call hF rfl (by decide) cl18_lp rfl rfl ?_)
        with_reducible refine (pl_plays w0 _ [] b12 n _ held _ o hT (hoP.mono (List.nil_subset _)) hoC hrow hn.1 hn.2 hheld (by omega) hA40 ).mono ?_
        rintro e' w42 ⟨n5, held5, Y5, rfl, hn5, hheld5, hrow5, hA43⟩
        refine ⟨_, rfl, fun a hF => hK _ _ ?_⟩
        clear hK K
        replace hA43 : Hp w0 (Y5 :: []) w42 := hA43
        refine vc_y hF rfl rfl (by decide) _ (y_assign rfl rfl) (fun a hF => ?_)
        refine vc_nil ?_
        refine hK31 _ _ ?_; clear  hK31 K31
        apply wp_seq_k; intro K32 hK32
        refine wp_region_lit ?_
        refine vc_y hF rfl rfl (by decide) _ (y_move rfl rfl) (fun a hF => ?_)
        refine vc_y hF rfl rfl (by decide) _ (y_not rfl rfl rfl) (fun a hF => ?_)
        refine vc_nil ?_
        refine hK32 _ _ ?_; clear  hK32 K32
        refine vc_false hF rfl ?_
        apply wp_skip
        refine hK30 _ _ ?_; clear  hK30 K30
        refine wp_region_lit ?_
        refine vc_y hF rfl rfl (by decide) _ (y_move rfl rfl) (fun a hF => ?_)
        refine vc_y hF rfl rfl (by decide) _ (y_add rfl rfl rfl (IntWalk.i64_in _ (by omega))) (fun a hF => ?_)
        refine vc_y hF rfl rfl (by decide) _ (y_assign rfl rfl) (fun a hF => ?_)
        refine vc_nil ?_
        exact ⟨i + 1, by omega, n5, held5, Y5, by omega, ⟨by omega, hn5.2⟩, hheld5, (hrow5.mono (by omega)), hF.keep [8, 0, 5] rfl, hA43⟩
      · refine vc_falseB hF rfl (lss_f (by omega)) ?_
        obtain rfl : i = os.length := by omega
        rw [List.take_length] at hrow
        apply wp_exit
        refine hK26 _ _ ?_; clear hK28 K28 hK26 K26
        apply wp_seq_k; intro K33 hK33
        apply wp_seq_k; intro K34 hK34
        refine wp_region_lit ?_
        refine vc_y hF rfl rfl (by decide) _ (y_assign rfl rfl) (fun a hF => ?_)
        refine vc_nil ?_
        refine hK34 _ _ ?_; clear  hK34 K34
        apply wp_block
        refine vc_loop (G := Nat) (fun i a x => ∃ (Y : Seg), RowOK b12 n (100 + (os.map stCost).sum) held Y ∧ Fr 113 [(9, .int .i64 (i : Int)), (5, .pointer (some ⟨b12, 0, none⟩))] a ∧ Hp w0 (Y :: []) x) (fun i => 40 - i) 0 (⟨_, hrow, hF.keep [9, 5] rfl, hA40⟩) ?_
        clear hF
        rintro i a w45 ⟨Y, hrow, hF, hA44⟩
        obtain ⟨qs, hsv, txv, XH, XT, hn0, hqs, hHs, hTx, rfl⟩ := hrow
        obtain ⟨AH, cH, rfl, _, hRH⟩ := hHs.rc (w0 := w0) (R := [XH]) (List.mem_cons_self ..)
        obtain ⟨AT, cT, rfl, _, hRT⟩ := hTx.rc (w0 := w0) (R := [XT]) (List.mem_cons_self ..)
        have hA46 : Hp w0 ([row b12 31 [.slice AH qs.length cH, .slice AT qs.length cT, .int .i64 ((held : Nat) : Int)]] :: XH :: XT :: (qs.map pxS).flatten :: []) w45 := hA44.cast (by simp)
        by_cases hlt2 : i < qs.length
        · by_cases hl5 : i < 40
          · have hiH : i < (qs.map pxP).length := by rw [List.length_map]; exact hlt2
            have hiT : i < (qs.map (·.tv)).length := by rw [List.length_map]; exact hlt2
            obtain ⟨bH, pH, rfl, hcH⟩ := hRH.ne (i := i) hiH
            obtain ⟨bT, pT, rfl, hcT⟩ := hRT.ne (i := i) hiT
            obtain ⟨⟨hb, m, Yq, tv, Zq⟩, hq⟩ : ∃ q, qs[i]? = some q := ⟨_, List.getElem?_eq_getElem hlt2⟩
            obtain ⟨⟨hYq, hZq⟩, hmT⟩ : (HsS hb m Yq ∧ Buf 5 1 Zq tv m.length (dc m)) ∧ m.length ≤ 100 + (os.map stCost).sum := hqs _ (List.mem_of_getElem? hq)
            obtain ⟨Am, cm, rfl, hcm⟩ := hZq.slice
            have hqP : (qs.map pxP)[i]? = some (.pointer (some ⟨hb, 0, none⟩)) := by rw [List.getElem?_map, hq]; rfl
            have hqT : (qs.map (·.tv))[i]? = some (.slice Am m.length cm) := by rw [List.getElem?_map, hq]; rfl
            have hRm : Rd w0 [(qs.map pxS).flatten] Am m := by
              obtain ⟨_, _, _, e1, _, h1⟩ := hZq.rd (w0 := w0) (R := [Zq]) (List.mem_cons_self ..)
              injection e1 with e1 _ _
              rw [e1]
              refine h1.monoF (fun r hr => ?_)
              rw [List.flatten_cons, List.flatten_nil, List.append_nil] at hr ⊢
              exact px_subZ hq hr
            have hYf : Yq ⊆ (qs.map pxS).flatten := px_sub hq
            apply wp_seq_k; intro K35 hK35
            apply wp_seq_k; intro K36 hK36
            refine wp_region_lit ?_
            refine vc_y hF rfl rfl (by decide) _ (y_move rfl rfl) (fun a hF => ?_)
            refine vc_y hF rfl rfl (by decide) _ (y_move rfl rfl) (fun a hF => ?_)
            refine vc_y hF rfl rfl (by decide) _ (y_nilCheck rfl rfl) (fun a hF => ?_)
            refine vc_y hF rfl rfl (by decide) _ (y_field rfl Tryd.underlying31 rfl sz28_lp (by decide) rfl (rfl : (⟨_, 0 + _, none⟩ : Addr) = ⟨_, 0, none⟩)) (fun a hF => ?_)
            refine vc_y hF rfl rfl (by decide) _ (y_ld rfl hA46.q rfl 0 rfl rfl nr28_lp) (fun a hF => ?_)
            refine vc_y hF rfl rfl (by decide) _ (y_lenSl rfl Tryd.underlying28 rfl rfl) (fun a hF => ?_)
            refine vc_y hF rfl rfl (by decide) _ (y_cmp rfl rfl rfl rfl (lss_t (by omega))) (fun a hF => ?_)
            refine vc_y hF rfl rfl (by decide) _ (y_move rfl rfl) (fun a hF => ?_)
            refine vc_yg hF rfl rfl rfl rfl rfl (by decide) _ (y_move rfl rfl) (fun a hF => ?_)
            refine vc_yg hF rfl rfl rfl rfl rfl (by decide) _ (y_cmp rfl rfl rfl rfl (lss_t (by omega))) (fun a hF => ?_)
            refine vc_y hF rfl rfl (by decide) _ (y_pick rfl rfl rfl) (fun a hF => ?_)
            refine vc_nil ?_
            refine hK36 _ _ ?_; clear  hK36 K36
            refine vc_true hF rfl ?_
            apply wp_skip
            refine hK35 _ _ ?_; clear  hK35 K35
            apply wp_seq_k; intro K37 hK37
            apply wp_block
            apply wp_seq_k; intro K38 hK38
            refine wp_region_plan 16 [7,15,16] [0,1,2,3,4,5,6,8,9,10,11,12,13,14,7,15,16] (fun x => Hq w0 ([row b12 31 [.slice (some ⟨bH, pH, none⟩) qs.length cH, .slice (some ⟨bT, pT, none⟩) qs.length cT, .int .i64 ((held : Nat) : Int)]] :: XH :: XT :: (qs.map pxS).flatten :: []) x) (by kernel_rfl) (by kernel_rfl) (Hq.drew (Hp.qp [[row b12 31 [.slice (some ⟨bH, pH, none⟩) qs.length cH, .slice (some ⟨bT, pT, none⟩) qs.length cT, .int .i64 ((held : Nat) : Int)]], XH, XT, (qs.map pxS).flatten] [] [0, 1, 2, 3] hA46)) ?_
            have hA47 := Hl.drew hA46
            refine vp_y hF rfl rfl rfl rfl (by decide) _ (fun x hx => y_move rfl rfl) (fun a hF => ?_)
            refine vp_y hF rfl rfl rfl rfl (by decide) _ (fun x hx => y_nilCheck rfl rfl) (fun a hF => ?_)
            refine vp_y hF rfl rfl rfl rfl (by decide) _ (fun x hx => y_field rfl Tryd.underlying31 rfl sz28_lp (by decide) rfl (rfl : (⟨_, 0 + _, none⟩ : Addr) = ⟨_, 0, none⟩)) (fun a hF => ?_)
            refine vp_y hF rfl rfl rfl rfl (by decide) _ (fun x hx => y_ld rfl hx rfl 0 rfl rfl nr28_lp) (fun a hF => ?_)
            refine vp_y hF rfl rfl rfl rfl (by decide) _ (fun x hx => y_move rfl rfl) (fun a hF => ?_)
            refine vp_y hF rfl rfl rfl rfl (by decide) _ (fun x hx => y_ixSl rfl Tryd.underlying28 sz32_lp rfl rfl i rfl hlt2 (ad2 _ _ _)) (fun a hF => ?_)
            refine vp_y hF rfl rfl rfl rfl (by decide) _ (fun x hx => y_ldC (u := .pointer (some ⟨hb, 0, none⟩)) rfl (Hq.sub hx (sub1 (List.mem_cons_of_mem _ ((List.mem_cons_self ..))))) rfl hcH i hiH rfl hqP nr32_lp) (fun a hF => ?_)
            refine vp_y hF rfl rfl rfl rfl (by decide) _ (fun x hx => y_move rfl rfl) (fun a hF => ?_)
            refine vp_y hF rfl rfl rfl rfl (by decide) _ (fun x hx => y_nilCheck rfl rfl) (fun a hF => ?_)
            refine vp_y hF rfl rfl rfl rfl (by decide) _ (fun x hx => y_field rfl Tryd.underlying31 rfl sz29_lp (by decide) rfl (rfl : (⟨_, 0 + _, none⟩ : Addr) = ⟨_, 1, none⟩)) (fun a hF => ?_)
            refine vp_y hF rfl rfl rfl rfl (by decide) _ (fun x hx => y_ld rfl hx rfl 0 rfl rfl nr29_lp) (fun a hF => ?_)
            refine vp_y hF rfl rfl rfl rfl (by decide) _ (fun x hx => y_move rfl rfl) (fun a hF => ?_)
            refine vp_y hF rfl rfl rfl rfl (by decide) _ (fun x hx => y_ixSl rfl Tryd.underlying29 sz24_lp rfl rfl i rfl hlt2 (ad2 _ _ _)) (fun a hF => ?_)
            refine vp_y hF rfl rfl rfl rfl (by decide) _ (fun x hx => y_ldC (u := .slice Am m.length cm) rfl (Hq.sub hx (sub1 (List.mem_cons_of_mem _ (List.mem_cons_of_mem _ ((List.mem_cons_self ..)))))) rfl hcT i hiT rfl hqT nr24_lp) (fun a hF => ?_)
            refine vp_l rfl rfl rfl (fun K hK => ws_call hF rfl (by decide) cl15_lp rfl rfl ?_)
            with_reducible refine (hc_sumF w0 _ _ hb m Yq hT hYq (px_in hYf (List.mem_cons_of_mem _ (List.mem_cons_of_mem _ (List.mem_cons_of_mem _ ((List.mem_cons_self ..)))))) hA47 (by omega) ).mono ?_
            rintro e' w48 ⟨rfl, hA49⟩
            refine ⟨_, rfl, fun a hF => hK _ _ (fun _ => ?_) ?_⟩
            · exact Hp.qp [[row b12 31 [.slice (some ⟨bH, pH, none⟩) qs.length cH, .slice (some ⟨bT, pT, none⟩) qs.length cT, .int .i64 ((held : Nat) : Int)]], XH, XT, (qs.map pxS).flatten] [] [0, 1, 2, 3] hA49
            clear hK K
            replace hA49 : Hp w0 ([row b12 31 [.slice (some ⟨bH, pH, none⟩) qs.length cH, .slice (some ⟨bT, pT, none⟩) qs.length cT, .int .i64 ((held : Nat) : Int)]] :: XH :: XT :: (qs.map pxS).flatten :: []) w48 := hA49
            refine vp_l rfl rfl rfl (fun K hK => ws_call hF rfl (by decide) cl19_lp rfl rfl ?_)
            with_reducible refine (hc_refsum w0 _ _ Am m cm (hRm.mono (sub1 (List.mem_cons_of_mem _ (List.mem_cons_of_mem _ (List.mem_cons_of_mem _ ((List.mem_cons_self ..))))))) hA49 (by omega) ).mono ?_
            rintro e' w50 ⟨rfl, hA51⟩
            refine ⟨_, rfl, fun a hF => hK _ _ (fun _ => ?_) ?_⟩
            · exact Hp.qp [[row b12 31 [.slice (some ⟨bH, pH, none⟩) qs.length cH, .slice (some ⟨bT, pT, none⟩) qs.length cT, .int .i64 ((held : Nat) : Int)]], XH, XT, (qs.map pxS).flatten] [] [0, 1, 2, 3] hA51
            clear hK K
            replace hA51 : Hp w0 ([row b12 31 [.slice (some ⟨bH, pH, none⟩) qs.length cH, .slice (some ⟨bT, pT, none⟩) qs.length cT, .int .i64 ((held : Nat) : Int)]] :: XH :: XT :: (qs.map pxS).flatten :: []) w50 := hA51
            refine vp_ly hF rfl rfl rfl rfl (by decide) _ (y_neB (c := false) rfl Tryd.underlying36 Tryd.underlying5 sz5_lp (by kernel_rfl) rfl rfl (sha_length _) (sha_length _) (by simp)) (fun h => absurd h (by decide)) (fun a hF => ?_)
            refine plan_end ?_
            refine hK38 _ _ ?_; clear  hK38 K38
            refine vc_false hF rfl ?_
            apply wp_skip
            refine hK37 _ _ ?_; clear  hK37 K37
            refine wp_region_lit ?_
            refine vc_y hF rfl rfl (by decide) _ (y_move rfl rfl) (fun a hF => ?_)
            refine vc_y hF rfl rfl (by decide) _ (y_add rfl rfl rfl (IntWalk.i64_in _ (by omega))) (fun a hF => ?_)
            refine vc_y hF rfl rfl (by decide) _ (y_assign rfl rfl) (fun a hF => ?_)
            refine vc_nil ?_
            exact ⟨i + 1, by omega, _, ⟨qs, _, _, XH, XT, hn0, hqs, hHs, hTx, rfl⟩, hF.keep [9, 5] rfl, hA51.cast (by simp)⟩
          · apply wp_seq_k; intro K39 hK39
            apply wp_seq_k; intro K40 hK40
            refine wp_region_lit ?_
            refine vc_y hF rfl rfl (by decide) _ (y_move rfl rfl) (fun a hF => ?_)
            refine vc_y hF rfl rfl (by decide) _ (y_move rfl rfl) (fun a hF => ?_)
            refine vc_y hF rfl rfl (by decide) _ (y_nilCheck rfl rfl) (fun a hF => ?_)
            refine vc_y hF rfl rfl (by decide) _ (y_field rfl Tryd.underlying31 rfl sz28_lp (by decide) rfl (rfl : (⟨_, 0 + _, none⟩ : Addr) = ⟨_, 0, none⟩)) (fun a hF => ?_)
            refine vc_y hF rfl rfl (by decide) _ (y_ld rfl hA46.q rfl 0 rfl rfl nr28_lp) (fun a hF => ?_)
            refine vc_y hF rfl rfl (by decide) _ (y_lenSl rfl Tryd.underlying28 rfl rfl) (fun a hF => ?_)
            refine vc_y hF rfl rfl (by decide) _ (y_cmp rfl rfl rfl rfl (lss_t (by omega))) (fun a hF => ?_)
            refine vc_y hF rfl rfl (by decide) _ (y_move rfl rfl) (fun a hF => ?_)
            refine vc_yg hF rfl rfl rfl rfl rfl (by decide) _ (y_move rfl rfl) (fun a hF => ?_)
            refine vc_yg hF rfl rfl rfl rfl rfl (by decide) _ (y_cmp rfl rfl rfl rfl (lss_f (by omega))) (fun a hF => ?_)
            refine vc_y hF rfl rfl (by decide) _ (y_pick rfl rfl rfl) (fun a hF => ?_)
            refine vc_nil ?_
            refine hK40 _ _ ?_; clear  hK40 K40
            refine vc_false hF rfl ?_
            apply wp_exit
            refine hK33 _ _ ?_; clear hK39 K39 hK33 K33
            apply wp_seq_k; intro K41 hK41
            refine wp_region_lit ?_
            refine vc_y hF rfl rfl (by decide) _ (y_assign rfl rfl) (fun a hF => ?_)
            refine vc_nil ?_
            refine hK41 _ _ ?_; clear  hK41 K41
            apply wp_ret
            refine vc_ret1 hF Tryd.results3 rfl ?_
            exact ⟨rfl, hA46.at0⟩
        · apply wp_seq_k; intro K42 hK42
          apply wp_seq_k; intro K43 hK43
          refine wp_region_lit ?_
          refine vc_y hF rfl rfl (by decide) _ (y_move rfl rfl) (fun a hF => ?_)
          refine vc_y hF rfl rfl (by decide) _ (y_move rfl rfl) (fun a hF => ?_)
          refine vc_y hF rfl rfl (by decide) _ (y_nilCheck rfl rfl) (fun a hF => ?_)
          refine vc_y hF rfl rfl (by decide) _ (y_field rfl Tryd.underlying31 rfl sz28_lp (by decide) rfl (rfl : (⟨_, 0 + _, none⟩ : Addr) = ⟨_, 0, none⟩)) (fun a hF => ?_)
          refine vc_y hF rfl rfl (by decide) _ (y_ld rfl hA46.q rfl 0 rfl rfl nr28_lp) (fun a hF => ?_)
          refine vc_y hF rfl rfl (by decide) _ (y_lenSl rfl Tryd.underlying28 rfl rfl) (fun a hF => ?_)
          refine vc_y hF rfl rfl (by decide) _ (y_cmp rfl rfl rfl rfl (lss_f (by omega))) (fun a hF => ?_)
          refine vc_y hF rfl rfl (by decide) _ (y_move rfl rfl) (fun a hF => ?_)
          refine vc_skip hF rfl rfl rfl rfl rfl rfl (by decide) (fun a hF => ?_)
          refine vc_skip hF rfl rfl rfl rfl rfl rfl (by decide) (fun a hF => ?_)
          refine vc_y hF rfl rfl (by decide) _ (y_pick rfl rfl rfl) (fun a hF => ?_)
          refine vc_nil ?_
          refine hK43 _ _ ?_; clear  hK43 K43
          refine vc_false hF rfl ?_
          apply wp_exit
          refine hK33 _ _ ?_; clear hK42 K42 hK33 K33
          apply wp_seq_k; intro K44 hK44
          refine wp_region_lit ?_
          refine vc_y hF rfl rfl (by decide) _ (y_assign rfl rfl) (fun a hF => ?_)
          refine vc_nil ?_
          refine hK44 _ _ ?_; clear  hK44 K44
          apply wp_ret
          refine vc_ret1 hF Tryd.results3 rfl ?_
          exact ⟨rfl, hA46.at0⟩
end Go.Proofs.YtppmhlkonemebaaDoor
