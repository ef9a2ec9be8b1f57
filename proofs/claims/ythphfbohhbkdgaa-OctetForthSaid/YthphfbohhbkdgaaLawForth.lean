/- The walk of OctetForth. -/
import Derived.Test.YthphfbohhbkdgaaForthLaw
import Derived.Test.YthphfbohhbkdgaaLawBack
import Derived.Test.YthphfbohhbkdgaaHt
namespace Go.Proofs.Ythphfbohhbkdgaa
open Go.RowKit Go.Dk
theorem rw38_of : isRow Try.prog 38 12 = true := by kernel_rfl
theorem sz38_of : (Try.prog.info? 38).map (·.size) = some 12 := by kernel_rfl
theorem cl21_of : CallsTo Try.prog 21 := ⟨_, Try.func21, by kernel_rfl, by kernel_rfl⟩
theorem cl23_of : CallsTo Try.prog 23 := ⟨_, Try.func23, by kernel_rfl, by kernel_rfl⟩
theorem cl26_of : CallsTo Try.prog 26 := ⟨_, Try.func26, by kernel_rfl, by kernel_rfl⟩
theorem cl30_of : CallsTo Try.prog 30 := ⟨_, Try.func30, by kernel_rfl, by kernel_rfl⟩
theorem cl31_of : CallsTo Try.prog 31 := ⟨_, Try.func31, by kernel_rfl, by kernel_rfl⟩
theorem cl39_of : CallsTo Try.prog 39 := ⟨_, Try.func39, by kernel_rfl, by kernel_rfl⟩
theorem cl41_of : CallsTo Try.prog 41 := ⟨_, Try.func41, by kernel_rfl, by kernel_rfl⟩
theorem cl42_of : CallsTo Try.prog 42 := ⟨_, Try.func42, by kernel_rfl, by kernel_rfl⟩

theorem zr38_of : zeroIs Try.prog 38 (.agg ([.int .i64 0, .int .i64 0, .int .u64 0, .int .i64 0, .bool false, .slice none 0 0, .slice none 0 0, .slice none 0 0, .string (⟨#[]⟩), .slice none 0 0, .int .i64 0, .int .i64 0] : List Value).toArray) := by unfold zeroIs; kernel_rfl

set_option maxRecDepth 100000 in
set_option maxHeartbeats 2000000 in
theorem op_forth (w0 w : World) (R : List Seg) (bA : Option Addr) (l : List UInt8) (bC : Nat) (hB : Rd w0 R bA l) (sA : Option Addr) (sC : Nat) (os : List OpX) (hOs : ∀ o ∈ os, OpOK w0 R o) (hS : Rc w0 R sA (os.map opC).flatten) (hn : os.length ≤ 9223372036854775807) (must : Bool) (hM : must = true → ∃ v o, os = [o] ∧ agR o l = .ok v l.length) (hl : l.length < 140737488351400) (hA : Hp w0 R w) : Calls Try.prog 42 #[.slice bA l.length bC, .slice sA os.length sC, .bool must] w fun e w' => ∃ b, e = .returned (.bool b) ∧ (True → b = true) ∧ Hp w0 R w' := by
  refine vc_enter Try.func42 rfl Try.ntmps42 (Nat.le_of_ble_eq_true rfl) (fun a hF => ?_)
  apply wp_seq_k; intro K1 hK1
  refine wp_region_lit ?_
  refine vc_y hF rfl rfl (by decide) _ (y_assign rfl rfl) (fun a hF => ?_)
  refine vc_nil ?_
  refine hK1 _ _ ?_; clear  hK1 K1
  apply wp_seq_k; intro K2 hK2
  refine wp_region_lit ?_
  refine vc_y hF rfl rfl (by decide) _ (y_move rfl rfl) (fun a hF => ?_)
  refine vc_op rfl (fun K hK => ws_call hF rfl (by decide) cl26_of rfl rfl ?_)
  with_reducible refine (hr_read w0 _ R bA l bC hB hA (by omega) ).mono ?_
  rintro e' w1 ⟨rb, A, c, X, rfl, hO, hA2⟩
  refine ⟨_, rfl, fun a hF => hK _ _ ?_⟩
  clear hK K
  replace hA2 : Hp w0 ([row rb 95 [.slice A l.length c, .int .i64 ((0 : Nat) : Int), .int .i64 ((0 : Nat) : Int)]] :: X :: R) w1 := hA2
  refine vc_y hF rfl rfl (by decide) _ (y_assign rfl rfl) (fun a hF => ?_)
  refine vc_nil ?_
  refine hK2 _ _ ?_; clear  hK2 K2
  apply wp_seq_k; intro K3 hK3
  refine wp_region_lit ?_
  refine vc_op rfl (fun K hK => ws_call hF rfl (by decide) cl21_of rfl rfl ?_)
  with_reducible refine (hw_new w0 _ _ hA2 ).mono ?_
  rintro e' w3 ⟨wb, Y, rfl, hY, hA4⟩
  refine ⟨_, rfl, fun a hF => hK _ _ ?_⟩
  clear hK K
  replace hA4 : Hp w0 (Y :: [row rb 95 [.slice A l.length c, .int .i64 ((0 : Nat) : Int), .int .i64 ((0 : Nat) : Int)]] :: X :: R) w3 := hA4
  refine vc_y hF rfl rfl (by decide) _ (y_assign rfl rfl) (fun a hF => ?_)
  refine vc_nil ?_
  refine hK3 _ _ ?_; clear  hK3 K3
  apply wp_seq_k; intro K4 hK4
  apply wp_seq_k; intro K5 hK5
  refine wp_region_lit ?_
  refine vc_y hF rfl rfl (by decide) _ (y_move rfl rfl) (fun a hF => ?_)
  refine vc_y hF rfl rfl (by decide) _ (y_eqNil rfl (by kernel_rfl) rfl rfl) (fun a hF => ?_)
  refine vc_y hF rfl rfl (by decide) _ (y_move rfl rfl) (fun a hF => ?_)
  refine vc_yg hF rfl rfl rfl rfl rfl (by decide) _ (y_move rfl rfl) (fun a hF => ?_)
  refine vc_yg hF rfl rfl rfl rfl rfl (by decide) _ (y_eqNil rfl (by kernel_rfl) rfl rfl) (fun a hF => ?_)
  refine vc_y hF rfl rfl (by decide) _ (y_pick rfl rfl rfl) (fun a hF => ?_)
  refine vc_nil ?_
  refine hK5 _ _ ?_; clear  hK5 K5
  refine vc_false hF rfl ?_
  apply wp_skip
  refine hK4 _ _ ?_; clear  hK4 K4
  apply wp_seq_k; intro K6 hK6
  apply wp_seq_k; intro K7 hK7
  refine wp_region_lit ?_
  refine vc_y hF rfl rfl (by decide) _ (y_assign rfl rfl) (fun a hF => ?_)
  refine vc_nil ?_
  refine hK7 _ _ ?_; clear  hK7 K7
  apply wp_block
  have hA5 : Hp w0 ([row rb 95 [.slice A l.length c, .int .i64 ((0 : Nat) : Int), .int .i64 ((0 : Nat) : Int)]] :: X :: Y :: R) w3 := Hp.ord [Y, [row rb 95 [.slice A l.length c, .int .i64 ((0 : Nat) : Int), .int .i64 ((0 : Nat) : Int)]], X] R [1, 2, 0] hA4 rfl
  refine vc_loop (G := Nat) (fun i a x => ∃ (p : Nat) (YW : Seg), i ≤ os.length ∧ p ≤ l.length ∧ WrS wb (l.take p) YW ∧ (must = true → (i = 0 ∧ p = 0) ∨ (i = 1 ∧ p = l.length)) ∧ Fr 56 [(9, .int .i64 (i : Int)), (0, .slice bA l.length bC), (1, .slice sA os.length sC), (2, .bool must), (7, .pointer (some ⟨rb, 0, none⟩)), (8, .pointer (some ⟨wb, 0, none⟩))] a ∧ Hp w0 ([row rb 95 [.slice A l.length c, .int .i64 (p : Int), .int .i64 ((0 : Nat) : Int)]] :: X :: YW :: R) x) (fun i => os.length - i) 0 (⟨0, Y, Nat.zero_le _, Nat.zero_le _, hY, fun _ => .inl ⟨rfl, rfl⟩, hF.keep [9, 0, 1, 2, 7, 8] rfl, hA5⟩) ?_
  clear hF
  rintro i a w7 ⟨p, YW, hi, hp, hY, hmu, hF, hA6⟩
  apply wp_seq_k; intro K8 hK8
  apply wp_seq_k; intro K9 hK9
  refine wp_region_lit ?_
  refine vc_y hF rfl rfl (by decide) _ (y_move rfl rfl) (fun a hF => ?_)
  refine vc_y hF rfl rfl (by decide) _ (y_move rfl rfl) (fun a hF => ?_)
  refine vc_y hF rfl rfl (by decide) _ (y_lenSl rfl Try.underlying23 rfl rfl) (fun a hF => ?_)
  refine vc_y hF rfl rfl (by decide) _ (y_cmp rfl rfl rfl rfl rfl) (fun a hF => ?_)
  refine vc_nil ?_
  refine hK9 _ _ ?_; clear  hK9 K9
  by_cases hlt : i < os.length
  · refine vc_trueB hF rfl (lss_t (by omega)) ?_
    obtain ⟨o, ho⟩ : ∃ o, os[i]? = some o := ⟨_, List.getElem?_eq_getElem hlt⟩
    have hok := hOs o (List.mem_of_getElem? ho)
    obtain ⟨hat, hle⟩ := flat_at (z := 12) (Ws := os.map opC) (V := opC o) (i := i) (fun V hV => by obtain ⟨u, _, rfl⟩ := List.mem_map.1 hV; rfl) (by rw [List.getElem?_map, ho]; rfl)
    obtain ⟨b, q, rfl, hc⟩ := hS.ne (i := i * 12) (by omega)
    have hdl : (l.drop p).length = l.length - p := List.length_drop
    apply wp_skip
    refine hK8 _ _ ?_; clear  hK8 K8
    apply wp_seq_k; intro K10 hK10
    apply wp_block
    apply wp_seq_k; intro K11 hK11
    refine wp_region_lit ?_
    refine vc_y hF rfl rfl (by decide) _ (y_move rfl rfl) (fun a hF => ?_)
    refine vc_y hF rfl rfl (by decide) _ (y_move rfl rfl) (fun a hF => ?_)
    refine vc_y hF rfl rfl (by decide) _ (y_move rfl rfl) (fun a hF => ?_)
    refine vc_y hF rfl rfl (by decide) _ (y_ixSl rfl Try.underlying23 sz38_of rfl rfl i rfl hlt rfl) (fun a hF => ?_)
    refine vc_y hF rfl rfl (by decide) _ (y_ldRowC (new := opC o) rfl (Hq.sub hA6.q (subC (subC (subC (sub0))))) rfl hc (i * 12) hle rfl hat rw38_of) (fun a hF => ?_)
    refine vc_op rfl (fun K hK => ws_call hF rfl (by decide) cl41_of rfl rfl ?_)
    with_reducible refine (op_again w0 _ (YW :: R) rb A l c p 0 X o R hok hO hA6 hp (by omega) ).mono ?_
    rintro e' w8 ⟨o', G, rfl, hk', hm', hmo', hea', hv', hok', hA9⟩
    refine ⟨_, rfl, fun a hF => hK _ _ ?_⟩
    clear hK K
    replace hA9 : Hp w0 (G :: [row rb 95 [.slice A l.length c, .int .i64 ((agR o (l.drop p)).pl p 0 : Nat), .int .i64 ((agR o (l.drop p)).why 0 : Nat)]] :: X :: YW :: R) w8 := hA9
    refine vc_op rfl (fun K hK => hs_alloc hF rfl (by decide) rfl hA9 (zr38_of) (fun b10 w11 a hb10 hF hA12 => hK _ _ ?_))
    clear hK K
    replace hA12 : Hp w0 ([row b10 38 [.int .i64 0, .int .i64 0, .int .u64 0, .int .i64 0, .bool false, .slice none 0 0, .slice none 0 0, .slice none 0 0, .string (⟨#[]⟩), .slice none 0 0, .int .i64 0, .int .i64 0]] :: G :: [row rb 95 [.slice A l.length c, .int .i64 ((agR o (l.drop p)).pl p 0 : Nat), .int .i64 ((agR o (l.drop p)).why 0 : Nat)]] :: X :: YW :: R) w11 := hA12
    refine vc_op rfl (fun K hK => hs_storeAll (new := opC o') hF rfl rfl hA12 rfl rfl 0 rfl rfl (ob_one o') sz38_of (fun w13 hA14 => hK _ _ ?_))
    clear hK K
    replace hA14 : Hp w0 ([row b10 38 (opC o')] :: G :: [row rb 95 [.slice A l.length c, .int .i64 ((agR o (l.drop p)).pl p 0 : Nat), .int .i64 ((agR o (l.drop p)).why 0 : Nat)]] :: X :: YW :: R) w13 := hA14
    refine vc_nil ?_
    refine hK11 _ _ ?_; clear  hK11 K11
    apply wp_seq_k; intro K12 hK12
    apply wp_seq_k; intro K13 hK13
    cases hag : agR o (l.drop p) with
    | no e =>
      rw [hag] at hA14
      have he0 := agR_no hag
      have hnm : must = false := by
        rcases Bool.eq_false_or_eq_true must with h | h
        · obtain ⟨v1, o1, e1, e2⟩ := hM h
          rcases hmu h with ⟨h1, h2⟩ | ⟨h1, h2⟩
          · subst h1 h2
            rw [e1] at ho
            obtain rfl : o1 = o := by simpa using ho
            rw [List.drop_zero, e2] at hag
            cases hag
          · rw [e1] at hlt; simp at hlt; omega
        · exact h
      replace hA14 : Hp w0 ([row b10 38 (opC o')] :: G :: [row rb 95 [.slice A l.length c, .int .i64 ((p : Nat) : Int), .int .i64 ((e : Nat) : Int)]] :: X :: YW :: R) w13 := hA14
      refine wp_region_lit ?_
      refine vc_y hF rfl rfl (by decide) _ (y_move rfl rfl) (fun a hF => ?_)
      have hA15 : Hp w0 ([row rb 95 [.slice A l.length c, .int .i64 ((p : Nat) : Int), .int .i64 ((e : Nat) : Int)]] :: X :: [row b10 38 (opC o')] :: G :: YW :: R) w13 := Hp.ord [[row b10 38 (opC o')], G, [row rb 95 [.slice A l.length c, .int .i64 ((p : Nat) : Int), .int .i64 ((e : Nat) : Int)]], X, YW] R [2, 3, 0, 1, 4] hA14 rfl
      refine vc_op rfl (fun K hK => ws_call hF rfl (by decide) cl31_of rfl rfl ?_)
      with_reducible refine (hr_why w0 _ _ rb A l c _ _ X hO hA15 ).mono ?_
      rintro e' w16 ⟨rfl, hA17⟩
      refine ⟨_, rfl, fun a hF => hK _ _ ?_⟩
      clear hK K
      replace hA17 : Hp w0 ([row rb 95 [.slice A l.length c, .int .i64 ((p : Nat) : Int), .int .i64 ((e : Nat) : Int)]] :: X :: [row b10 38 (opC o')] :: G :: YW :: R) w16 := hA17
      refine vc_y hF rfl rfl (by decide) _ (y_cmp rfl rfl rfl rfl rfl) (fun a hF => ?_)
      refine vc_nil ?_
      refine hK13 _ _ ?_; clear  hK13 K13
      refine vc_trueB hF rfl (neq_t (by omega)) ?_
      apply wp_seq_k; intro K14 hK14
      refine wp_region_lit ?_
      refine vc_y hF rfl rfl (by decide) _ (y_move rfl rfl) (fun a hF => ?_)
      refine vc_y hF rfl rfl (by decide) _ (y_not (e := true) rfl rfl (by rw [hnm]; rfl)) (fun a hF => ?_)
      refine vc_y hF rfl rfl (by decide) _ (y_assign rfl rfl) (fun a hF => ?_)
      refine vc_nil ?_
      refine hK14 _ _ ?_; clear  hK14 K14
      apply wp_ret
      simp only [Exit.then, Exit.inBlock]
      refine vc_ret1 hF Try.results42 rfl ?_
      have hA18 : Hp w0 (R) w16 := Hp.sel [[row rb 95 [.slice A l.length c, .int .i64 ((p : Nat) : Int), .int .i64 ((e : Nat) : Int)]], X, [row b10 38 (opC o')], G, YW] R [] [0, 1, 2, 3, 4] hA17 rfl
      exact ⟨_, rfl, fun _ => rfl, hA18⟩
    | ok vv k =>
      rw [hag] at hA14 hv'
      obtain ⟨hf1, hf2, hf3, hf4⟩ := forth1 o o' hk' hmo' hea' hv' hag
      replace hA14 : Hp w0 ([row b10 38 (opC o')] :: G :: [row rb 95 [.slice A l.length c, .int .i64 ((p + k : Nat) : Int), .int .i64 ((0 : Nat) : Int)]] :: X :: YW :: R) w13 := hA14
      refine wp_region_lit ?_
      refine vc_y hF rfl rfl (by decide) _ (y_move rfl rfl) (fun a hF => ?_)
      have hA19 : Hp w0 ([row rb 95 [.slice A l.length c, .int .i64 ((p + k : Nat) : Int), .int .i64 ((0 : Nat) : Int)]] :: X :: [row b10 38 (opC o')] :: G :: YW :: R) w13 := Hp.ord [[row b10 38 (opC o')], G, [row rb 95 [.slice A l.length c, .int .i64 ((p + k : Nat) : Int), .int .i64 ((0 : Nat) : Int)]], X, YW] R [2, 3, 0, 1, 4] hA14 rfl
      refine vc_op rfl (fun K hK => ws_call hF rfl (by decide) cl31_of rfl rfl ?_)
      with_reducible refine (hr_why w0 _ _ rb A l c _ _ X hO hA19 ).mono ?_
      rintro e' w20 ⟨rfl, hA21⟩
      refine ⟨_, rfl, fun a hF => hK _ _ ?_⟩
      clear hK K
      replace hA21 : Hp w0 ([row rb 95 [.slice A l.length c, .int .i64 ((p + k : Nat) : Int), .int .i64 ((0 : Nat) : Int)]] :: X :: [row b10 38 (opC o')] :: G :: YW :: R) w20 := hA21
      refine vc_y hF rfl rfl (by decide) _ (y_cmp rfl rfl rfl rfl (neq_f rfl)) (fun a hF => ?_)
      refine vc_nil ?_
      refine hK13 _ _ ?_; clear  hK13 K13
      refine vc_false hF rfl ?_
      apply wp_skip
      refine hK12 _ _ ?_; clear  hK12 K12
      apply wp_seq_k; intro K15 hK15
      refine wp_region_lit ?_
      refine vc_y hF rfl rfl (by decide) _ (y_move rfl rfl) (fun a hF => ?_)
      refine vc_y hF rfl rfl (by decide) _ (y_ldRow (new := opC o') rfl hA21.q rfl 2 rfl rw38_of (by rw [show (opC o').length = 12 from rfl]; exact Nat.le_refl _) (by rw [List.drop_zero]; exact List.take_of_length_le (by rw [show (opC o').length = 12 from rfl]; exact Nat.le_refl _))) (fun a hF => ?_)
      have hA22 : Hp w0 (YW :: [row rb 95 [.slice A l.length c, .int .i64 ((p + k : Nat) : Int), .int .i64 ((0 : Nat) : Int)]] :: X :: [row b10 38 (opC o')] :: G :: R) w20 := Hp.ord [[row rb 95 [.slice A l.length c, .int .i64 ((p + k : Nat) : Int), .int .i64 ((0 : Nat) : Int)]], X, [row b10 38 (opC o')], G, YW] R [4, 0, 1, 2, 3] hA21 rfl
      refine vc_op rfl (fun K hK => ws_call hF rfl (by decide) cl39_of rfl rfl ?_)
      with_reducible refine (op_lays w0 _ ([row rb 95 [.slice A l.length c, .int .i64 ((p + k : Nat) : Int), .int .i64 ((0 : Nat) : Int)]] :: X :: [row b10 38 (opC o')] :: G :: R) wb _ YW o' (hok' _ (by simp)) hY hA22 (by rw [List.length_take]; omega) ).mono ?_
      rintro e' w23 ⟨Y2, rfl, hY, hA24⟩
      refine ⟨_, rfl, fun a hF => hK _ _ ?_⟩
      clear hK K
      replace hA24 : Hp w0 (Y2 :: [row rb 95 [.slice A l.length c, .int .i64 ((p + k : Nat) : Int), .int .i64 ((0 : Nat) : Int)]] :: X :: [row b10 38 (opC o')] :: G :: R) w23 := hA24
      rw [decide_eq_true hf1] at hF
      rw [hf2, show l.take p ++ (l.drop p).take k = l.take (p + k) from List.take_add.symm] at hY
      refine vc_y hF rfl rfl (by decide) _ (y_not rfl rfl rfl) (fun a hF => ?_)
      refine vc_nil ?_
      refine hK15 _ _ ?_; clear  hK15 K15
      refine vc_false hF rfl ?_
      apply wp_skip
      refine hK10 _ _ ?_; clear  hK10 K10
      refine wp_region_lit ?_
      refine vc_y hF rfl rfl (by decide) _ (y_move rfl rfl) (fun a hF => ?_)
      refine vc_y hF rfl rfl (by decide) _ (y_add rfl rfl rfl (IntWalk.i64_in _ (by omega))) (fun a hF => ?_)
      refine vc_y hF rfl rfl (by decide) _ (y_assign rfl rfl) (fun a hF => ?_)
      refine vc_nil ?_
      have hmu2 : must = true → (i + 1 = 0 ∧ p + k = 0) ∨ (i + 1 = 1 ∧ p + k = l.length) := fun h => by
        obtain ⟨v1, o1, e1, e2⟩ := hM h
        rcases hmu h with ⟨h1, h2⟩ | ⟨h1, h2⟩
        · subst h1 h2
          rw [e1] at ho
          obtain rfl : o1 = o := by simpa using ho
          rw [List.drop_zero, e2] at hag
          injection hag with _ h3
          exact .inr ⟨rfl, by omega⟩
        · rw [e1] at hlt; simp at hlt; omega
      have hA25 : Hp w0 ([row rb 95 [.slice A l.length c, .int .i64 ((p + k : Nat) : Int), .int .i64 ((0 : Nat) : Int)]] :: X :: Y2 :: R) w23 := Hp.sel [Y2, [row rb 95 [.slice A l.length c, .int .i64 ((p + k : Nat) : Int), .int .i64 ((0 : Nat) : Int)]], X, [row b10 38 (opC o')], G] R [1, 2, 0] [3, 4] hA24 rfl
      exact ⟨i + 1, by omega, p + k, Y2, by omega, by omega, hY, hmu2, hF.keep [9, 0, 1, 2, 7, 8] rfl, hA25⟩
  · refine vc_falseB hF rfl (lss_f (by omega)) ?_
    obtain rfl : i = os.length := by omega
    by_cases hpl : p < l.length
    · have hlt2 : p < l.length := by omega
      have hnm : must = false := by
        rcases Bool.eq_false_or_eq_true must with h | h
        · obtain ⟨v1, o1, e1, e2⟩ := hM h
          rcases hmu h with ⟨h1, h2⟩ | ⟨h1, h2⟩
          · rw [e1] at h1; simp at h1
          · omega
        · exact h
      apply wp_exit
      refine hK6 _ _ ?_; clear hK8 K8 hK6 K6
      apply wp_seq_k; intro K16 hK16
      refine wp_region_plan 15 [1,9,15] [0,1,2,3,4,5,6,7,8,11,12,9,10,13,14,15] (fun x => Hq w0 (X :: R) x) (by kernel_rfl) (by kernel_rfl) (Hq.drew (Hp.qp [[row rb 95 [.slice A l.length c, .int .i64 (p : Int), .int .i64 ((0 : Nat) : Int)]], X, YW] R [1] hA6)) ?_
      have hA26 := Hl.drew hA6
      refine vp_y hF rfl rfl rfl rfl (by decide) _ (fun x hx => y_move rfl rfl) (fun a hF => ?_)
      refine vp_l rfl rfl rfl (fun K hK => ws_call hF rfl (by decide) cl30_of rfl rfl ?_)
      with_reducible refine (hr_done w0 _ _ rb A l c p 0 X hO hA26 hp (by omega) ).mono ?_
      rintro e' w27 ⟨rfl, hA28⟩
      refine ⟨_, rfl, fun a hF => hK _ _ (fun _ => ?_) ?_⟩
      · exact Hp.qp [[row rb 95 [.slice A l.length c, .int .i64 (p : Int), .int .i64 ((0 : Nat) : Int)]], X, YW] R [1] hA28
      clear hK K
      replace hA28 : Hp w0 ([row rb 95 [.slice A l.length c, .int .i64 (p : Int), .int .i64 ((0 : Nat) : Int)]] :: X :: YW :: R) w27 := hA28
      refine vp_y hF rfl rfl rfl rfl (by decide) _ (fun x hx => y_cmp rfl rfl rfl rfl (neq_t (by rw [if_pos ⟨rfl, hlt2⟩]; decide))) (fun a hF => ?_)
      refine vp_y hF rfl rfl rfl rfl (by decide) _ (fun x hx => y_move rfl rfl) (fun a hF => ?_)
      refine vp_yg hF rfl rfl rfl rfl rfl rfl rfl (by decide) _ (fun x hx => y_move rfl rfl) (fun a hF => ?_)
      refine vp_yg hF rfl rfl rfl rfl rfl rfl rfl (by decide) _ (fun x hx => y_not (e := true) rfl rfl (by rw [hnm]; rfl)) (fun a hF => ?_)
      refine vp_y hF rfl rfl rfl rfl (by decide) _ (fun x hx => y_pick rfl rfl rfl) (fun a hF => ?_)
      refine vp_y hF rfl rfl rfl rfl (by decide) _ (fun x hx => y_move rfl rfl) (fun a hF => ?_)
      refine vp_skip hF rfl rfl rfl rfl rfl rfl rfl rfl (by decide) (fun a hF => ?_)
      refine vp_skip hF rfl rfl rfl rfl rfl rfl rfl rfl (by decide) (fun a hF => ?_)
      refine vp_skip hF rfl rfl rfl rfl rfl rfl rfl rfl (by decide) (fun a hF => ?_)
      refine vp_skipl hF rfl rfl rfl rfl rfl rfl rfl rfl (by decide) (Hp.qp [[row rb 95 [.slice A l.length c, .int .i64 (p : Int), .int .i64 ((0 : Nat) : Int)]], X, YW] R [1] hA28) (fun a hF => ?_)
      refine vp_skip hF rfl rfl rfl rfl rfl rfl rfl rfl (by decide) (fun a hF => ?_)
      refine vp_skip hF rfl rfl rfl rfl rfl rfl rfl rfl (by decide) (fun a hF => ?_)
      refine vp_y hF rfl rfl rfl rfl (by decide) _ (fun x hx => y_pick rfl rfl rfl) (fun a hF => ?_)
      refine vp_ly hF rfl rfl rfl rfl (by decide) _ (y_assign rfl rfl) (fun h => absurd h (by decide)) (fun a hF => ?_)
      refine plan_end ?_
      refine hK16 _ _ ?_; clear  hK16 K16
      apply wp_ret
      refine vc_ret1 hF Try.results42 rfl ?_
      have hA29 : Hp w0 (R) w27 := Hp.sel [[row rb 95 [.slice A l.length c, .int .i64 (p : Int), .int .i64 ((0 : Nat) : Int)]], X, YW] R [] [0, 1, 2] hA28 rfl
      exact ⟨_, rfl, fun _ => rfl, hA29⟩
    · obtain rfl : p = l.length := by omega
      rw [List.take_length] at hY
      apply wp_exit
      refine hK6 _ _ ?_; clear hK8 K8 hK6 K6
      apply wp_seq_k; intro K17 hK17
      refine wp_region_plan 15 [1,9,10,15] [0,1,2,3,4,5,6,7,8,11,12,9,10,13,14,15] (fun x => Hq w0 (R) x) (by kernel_rfl) (by kernel_rfl) (Hq.drew (Hp.qp [[row rb 95 [.slice A l.length c, .int .i64 (l.length : Int), .int .i64 ((0 : Nat) : Int)]], X, YW] R [] hA6)) ?_
      have hA30 := Hl.drew hA6
      refine vp_y hF rfl rfl rfl rfl (by decide) _ (fun x hx => y_move rfl rfl) (fun a hF => ?_)
      refine vp_l rfl rfl rfl (fun K hK => ws_call hF rfl (by decide) cl30_of rfl rfl ?_)
      with_reducible refine (hr_done w0 _ _ rb A l c l.length 0 X hO hA30 hp (by omega) ).mono ?_
      rintro e' w31 ⟨rfl, hA32⟩
      refine ⟨_, rfl, fun a hF => hK _ _ (fun _ => ?_) ?_⟩
      · exact Hp.qp [[row rb 95 [.slice A l.length c, .int .i64 (l.length : Int), .int .i64 ((0 : Nat) : Int)]], X, YW] R [] hA32
      clear hK K
      replace hA32 : Hp w0 ([row rb 95 [.slice A l.length c, .int .i64 (l.length : Int), .int .i64 ((0 : Nat) : Int)]] :: X :: YW :: R) w31 := hA32
      rw [if_neg (show ¬ (0 = 0 ∧ l.length < l.length) by omega)] at hF
      refine vp_y hF rfl rfl rfl rfl (by decide) _ (fun x hx => y_cmp rfl rfl rfl rfl (neq_f rfl)) (fun a hF => ?_)
      refine vp_y hF rfl rfl rfl rfl (by decide) _ (fun x hx => y_move rfl rfl) (fun a hF => ?_)
      refine vp_skip hF rfl rfl rfl rfl rfl rfl rfl rfl (by decide) (fun a hF => ?_)
      refine vp_skip hF rfl rfl rfl rfl rfl rfl rfl rfl (by decide) (fun a hF => ?_)
      refine vp_y hF rfl rfl rfl rfl (by decide) _ (fun x hx => y_pick rfl rfl rfl) (fun a hF => ?_)
      refine vp_y hF rfl rfl rfl rfl (by decide) _ (fun x hx => y_move rfl rfl) (fun a hF => ?_)
      refine vp_yg hF rfl rfl rfl rfl rfl rfl rfl (by decide) _ (fun x hx => y_move rfl rfl) (fun a hF => ?_)
      refine vp_yg hF rfl rfl rfl rfl rfl rfl rfl (by decide) _ (fun x hx => y_move rfl rfl) (fun a hF => ?_)
      refine vp_yg hF rfl rfl rfl rfl rfl rfl rfl (by decide) _ (fun x hx => y_convStr rfl Try.underlying35 Try.underlying5 Try.underlying9 rfl rfl (hB.bts (Hq.sub hx (sub0)))) (fun a hF => ?_)
      have hA33 : Hp w0 (YW :: [row rb 95 [.slice A l.length c, .int .i64 (l.length : Int), .int .i64 ((0 : Nat) : Int)]] :: X :: R) w31 := Hp.ord [[row rb 95 [.slice A l.length c, .int .i64 (l.length : Int), .int .i64 ((0 : Nat) : Int)]], X, YW] R [2, 0, 1] hA32 rfl
      refine vp_lg hF rfl rfl rfl rfl rfl rfl (fun K hK => ws_call hF rfl (by decide) cl23_of rfl rfl ?_)
      with_reducible refine (hw_all w0 _ _ wb l YW hY hA33 (by omega) ).mono ?_
      rintro e' w34 ⟨va, ZA, Y3, rfl, hZA, hY3, hA35⟩
      refine ⟨_, rfl, fun a hF => hK _ _ (fun _ => ?_) ?_⟩
      · exact Hp.qp [ZA, Y3, [row rb 95 [.slice A l.length c, .int .i64 (l.length : Int), .int .i64 ((0 : Nat) : Int)]], X] R [] hA35
      clear hK K
      replace hA35 : Hp w0 (ZA :: Y3 :: [row rb 95 [.slice A l.length c, .int .i64 (l.length : Int), .int .i64 ((0 : Nat) : Int)]] :: X :: R) w34 := hA35
      obtain ⟨_, A0, c0, rfl, _, hR0⟩ := hZA.rd (w0 := w0) (R := [ZA]) (List.mem_cons_self ..)
      refine vp_lyg hF rfl rfl rfl rfl rfl rfl rfl (by decide) _ (y_convStr rfl Try.underlying35 Try.underlying5 Try.underlying9 rfl rfl (hR0.bts (Hq.sub hA35.q (by simp)))) (fun _ => Hp.qp [ZA, Y3, [row rb 95 [.slice A l.length c, .int .i64 (l.length : Int), .int .i64 ((0 : Nat) : Int)]], X] R [] hA35) (fun a hF => ?_)
      refine vp_yg hF rfl rfl rfl rfl rfl rfl rfl (by decide) _ (fun x hx => y_cmpS (c := true) rfl rfl rfl rfl (by rw [al_str, decide_eq_true rfl])) (fun a hF => ?_)
      refine vp_y hF rfl rfl rfl rfl (by decide) _ (fun x hx => y_pick rfl rfl rfl) (fun a hF => ?_)
      refine vp_ly hF rfl rfl rfl rfl (by decide) _ (y_assign rfl rfl) (fun h => absurd h (by decide)) (fun a hF => ?_)
      refine plan_end ?_
      refine hK17 _ _ ?_; clear  hK17 K17
      apply wp_ret
      refine vc_ret1 hF Try.results42 rfl ?_
      have hA36 : Hp w0 (R) w34 := Hp.sel [ZA, Y3, [row rb 95 [.slice A l.length c, .int .i64 (l.length : Int), .int .i64 ((0 : Nat) : Int)]], X] R [] [0, 1, 2, 3] hA35 rfl
      exact ⟨_, rfl, fun _ => rfl, hA36⟩

def opT : OpX := { kind := 8, at_ := 0, many := 0, most := 1, each := 0, v := vals0, ps := [], dA := none, dC := 0, qA := none, qC := 0, pA := none, pC := 0, sA := none, sC := 0 }
theorem opT_ok {w0 : World} {R : List Seg} : OpOK w0 R opT := ⟨op_z2, by decide, (fun d hd => by cases hd), Rc.nil, Rc.nil, Nat.le_refl 0, Rc.nil, op_z, op_z, op_z, op_z⟩
theorem of_build (w : World) : (Instr.build 38 #[(0, .int .i64 8), (10, .int .i64 1)]).run Try.prog w = .ok (.agg (opC opT).toArray) w := by kernel_rfl
theorem of_bs3 (w : World) : (Instr.buildSlice 35 3 #[(0, .int .u8 0), (1, .int .u8 1), (2, .int .u8 98)]).run Try.prog w = .ok (.slice (some ⟨w.heap.size, 0, none⟩) 3 3) (w.alloc (.cells (dc [0, 1, 98]).toArray 5)) := by kernel_rfl

set_option maxRecDepth 100000 in
set_option maxHeartbeats 2000000 in
theorem law_forth (w0 : World) (bA : Option Addr) (l : List UInt8) (bC : Nat) (hB : Rd w0 [] bA l) (hl : l.length < 140737488351400) (sA : Option Addr) (sC : Nat) (os : List OpX) (hOs : ∀ o ∈ os, OpOK w0 [] o) (hS : Rc w0 [] sA (os.map opC).flatten) (hn : os.length ≤ 9223372036854775807) : Calls Try.prog 8 #[.slice bA l.length bC, .slice sA os.length sC] w0 fun e w' => e = .returned (.bool true) ∧ At w0 [] w' := by
  have hA : Hp w0 [] w0 := Hp.start w0
  refine vc_enter Try.func8 rfl Try.ntmps8 (Nat.le_of_ble_eq_true rfl) (fun a hF => ?_)
  apply wp_seq_k; intro K1 hK1
  refine wp_region_lit ?_
  refine vc_y hF rfl rfl (by decide) _ (y_assign rfl rfl) (fun a hF => ?_)
  refine vc_nil ?_
  refine hK1 _ _ ?_; clear  hK1 K1
  apply wp_seq_k; intro K2 hK2
  refine wp_region_lit ?_
  refine vc_op rfl (fun K hK => hs_bs (qs := #[(0, .int .u8 0), (1, .int .u8 1), (2, .int .u8 98)]) (cells := (dc [0, 1, 98]).toArray) hF rfl (by decide) rfl hA rfl of_bs3 (fun b1 w2 a hb1 hF hA3 => hK _ _ ?_))
  clear hK K
  replace hA3 : Hp w0 ([row b1 5 (dc [0, 1, 98])] :: []) w2 := hA3
  refine vc_y hF rfl rfl (by decide) _ (y_build (qs := #[(0, .int .i64 8), (10, .int .i64 1)]) rfl rfl of_build) (fun a hF => ?_)
  refine vc_op rfl (fun K hK => hs_bs (qs := #[(0, .agg (opC opT).toArray)]) (cells := (opC opT).toArray) hF rfl (by decide) rfl hA3 rfl (ob_bsO opT) (fun b4 w5 a hb4 hF hA6 => hK _ _ ?_))
  clear hK K
  replace hA6 : Hp w0 ([row b4 38 (opC opT)] :: [row b1 5 (dc [0, 1, 98])] :: []) w5 := hA6
  have hc : Calls Try.prog 42 #[.slice (some ⟨b1, 0, none⟩) 3 3, .slice (some ⟨b4, 0, none⟩) 1 1, .bool true] w5 _ := op_forth w0 _ ([row b4 38 (opC opT)] :: [row b1 5 (dc [0, 1, 98])] :: []) (some ⟨b1, 0, none⟩) [0, 1, 98] 3 (Rc.ofRow (i := 1) rfl rfl) (some ⟨b4, 0, none⟩) 1 [opT] (fun o ho => by rw [List.mem_singleton] at ho; subst ho; exact opT_ok) (Rc.ofRow (i := 0) rfl rfl) (by decide) true (fun _ => ⟨_, opT, rfl, by rw [show agR opT [0, 1, 98] = .ok (vS [98]) 3 from by rfl]; rfl⟩) (by decide) hA6
  refine vc_op rfl (fun K hK => ws_call hF rfl (by decide) cl42_of rfl rfl ?_)
  with_reducible refine (hc ).mono ?_
  rintro e' w7 ⟨b, rfl, hb, hA8⟩
  refine ⟨_, rfl, fun a hF => hK _ _ ?_⟩
  clear hK K
  replace hA8 : Hp w0 ([row b4 38 (opC opT)] :: [row b1 5 (dc [0, 1, 98])] :: []) w7 := hA8
  rw [hb trivial] at hF
  refine vc_y hF rfl rfl (by decide) _ (y_move rfl rfl) (fun a hF => ?_)
  refine vc_yg hF rfl rfl rfl rfl rfl (by decide) _ (y_move rfl rfl) (fun a hF => ?_)
  refine vc_yg hF rfl rfl rfl rfl rfl (by decide) _ (y_move rfl rfl) (fun a hF => ?_)
  refine vc_opg hF rfl rfl rfl rfl (fun K hK => ws_call hF rfl (by decide) cl42_of rfl rfl ?_)
  with_reducible refine (op_forth w0 _ ([row b4 38 (opC opT)] :: [row b1 5 (dc [0, 1, 98])] :: []) bA l bC (hB.mono (subC (subC (sub0)))) sA sC os (fun o ho => (hOs o ho).mono (subC (subC (sub0)))) (hS.mono (subC (subC (sub0)))) hn false (fun h => by cases h) hl hA8 ).mono ?_
  rintro e' w9 ⟨b, rfl, hb, hA10⟩
  refine ⟨_, rfl, fun a hF => hK _ _ ?_⟩
  clear hK K
  replace hA10 : Hp w0 ([row b4 38 (opC opT)] :: [row b1 5 (dc [0, 1, 98])] :: []) w9 := hA10
  rw [hb trivial] at hF
  refine vc_y hF rfl rfl (by decide) _ (y_pick rfl rfl rfl) (fun a hF => ?_)
  refine vc_y hF rfl rfl (by decide) _ (y_assign rfl rfl) (fun a hF => ?_)
  refine vc_nil ?_
  refine hK2 _ _ ?_; clear  hK2 K2
  apply wp_ret
  refine vc_ret1 hF Try.results8 rfl ?_
  exact ⟨rfl, hA10.at0⟩
end Go.Proofs.Ythphfbohhbkdgaa
