/- Names: letters, words, what a name is. -/
import Derived.Test.YtepbmdlgdaedpaaGreatDoorEv
import Derived.Test.YtepbmdlgdaedpaaGreatDoorEvL
namespace Go.Proofs.YtepbmdlgdaedpaaGreatDoor
open Go.RowKit Go.Dk

theorem rw240_v1 : isRow Tryz.prog 240 35 = true := by kernel_rfl
theorem sz9_v1 : (Tryz.prog.info? 9).map (·.size) = some 1 := by kernel_rfl
theorem cl143_v1 : CallsTo Tryz.prog 143 := ⟨_, Tryz.func143, by kernel_rfl, by kernel_rfl⟩
theorem cl144_v1 : CallsTo Tryz.prog 144 := ⟨_, Tryz.func144, by kernel_rfl, by kernel_rfl⟩
theorem cl170_v1 : CallsTo Tryz.prog 170 := ⟨_, Tryz.func170, by kernel_rfl, by kernel_rfl⟩
theorem cl171_v1 : CallsTo Tryz.prog 171 := ⟨_, Tryz.func171, by kernel_rfl, by kernel_rfl⟩
theorem cl172_v1 : CallsTo Tryz.prog 172 := ⟨_, Tryz.func172, by kernel_rfl, by kernel_rfl⟩
theorem cl201_v1 : CallsTo Tryz.prog 201 := ⟨_, Tryz.func201, by kernel_rfl, by kernel_rfl⟩

theorem lowC_eq (c : UInt8) : ((cmpB .geq (c.toNat : Int) (97)) && (cmpB .leq (c.toNat : Int) (122))) = lowC c := by
  unfold lowC cmpB
  rw [Bool.eq_iff_iff]
  simp only [Bool.and_eq_true, decide_eq_true_eq]
  omega

set_option maxRecDepth 100000 in
set_option maxHeartbeats 1000000 in
theorem ev_letter (c : UInt8) (w : World) : Calls Tryz.prog 170 #[.int .u8 (c.toNat : Int)] w fun e w' => e = .returned (.bool (lowC c)) ∧ w = w' := by
  refine vc_enter Tryz.func170 rfl Tryz.ntmps170 (Nat.le_of_ble_eq_true rfl) (fun a hF => ?_)
  apply wp_seq_k; intro K1 hK1
  refine wp_region_lit ?_
  refine vc_y hF rfl rfl (by decide) _ (y_assign rfl rfl) (fun a hF => ?_)
  refine vc_nil ?_
  refine hK1 _ _ ?_; clear  hK1 K1
  apply wp_seq_k; intro K2 hK2
  refine wp_region_lit ?_
  refine vc_y hF rfl rfl (by decide) _ (y_move rfl rfl) (fun a hF => ?_)
  refine vc_y hF rfl rfl (by decide) _ (y_cmp rfl rfl rfl rfl rfl) (fun a hF => ?_)
  refine vc_y hF rfl rfl (by decide) _ (y_move rfl rfl) (fun a hF => ?_)
  refine vc_meet (l2 := ?lA1) hF [(8, .bool ((cmpB .geq ((c.toNat : Int)) (97)) && (cmpB .leq ((c.toNat : Int)) (122)))), (0, .int .u8 (c.toNat : Int)), (2, .bool false)] (fun hJ1 => ?elA1) (fun a hF => ?flA1)
  case elA1 =>
    rcases tf (cmpB .geq ((c.toNat : Int)) (97)) with hg1 | hg1
    · refine vc_skip hF rfl rfl rfl rfl rfl (ne_want hg1) (by decide) (fun a hF => ?_)
      refine vc_skip hF rfl rfl rfl rfl rfl (ne_want hg1) (by decide) (fun a hF => ?_)
      refine vc_y hF rfl rfl (by decide) _ (y_pickF hg1 rfl rfl rfl) (fun a hF => ?_)
      exact hJ1 _ ((hF.keep [8, 0, 2] (F' := [(8, _), (0, _), (2, _)]) rfl).bool (by rw [hg1]; rfl))
    · refine vc_yg hF rfl rfl rfl rfl (some_bool hg1) (by decide) _ (y_move rfl rfl) (fun a hF => ?_)
      refine vc_yg hF rfl rfl rfl rfl (some_bool hg1) (by decide) _ (y_cmp rfl rfl rfl rfl rfl) (fun a hF => ?_)
      refine vc_y hF rfl rfl (by decide) _ (y_pickT hg1 rfl rfl rfl) (fun a hF => ?_)
      exact hJ1 _ ((hF.keep [8, 0, 2] (F' := [(8, _), (0, _), (2, _)]) rfl).bool (by rw [hg1]; rfl))
  refine vc_y hF rfl rfl (by decide) _ (y_assign rfl rfl) (fun a hF => ?_)
  refine vc_nil ?_
  refine hK2 _ _ ?_; clear  hK2 K2
  apply wp_ret
  refine vc_ret1 hF Tryz.results170 rfl ?_
  exact ⟨by rw [lowC_eq], rfl⟩
theorem digC_eq (c : UInt8) : ((cmpB .geq (c.toNat : Int) (48)) && (cmpB .leq (c.toNat : Int) (57))) = digC c := by
  unfold digC cmpB
  rw [Bool.eq_iff_iff]
  simp only [Bool.and_eq_true, decide_eq_true_eq]
  omega

set_option maxRecDepth 100000 in
set_option maxHeartbeats 1000000 in
theorem ev_digit (c : UInt8) (w : World) : Calls Tryz.prog 201 #[.int .u8 (c.toNat : Int)] w fun e w' => e = .returned (.bool (digC c)) ∧ w = w' := by
  refine vc_enter Tryz.func201 rfl Tryz.ntmps201 (Nat.le_of_ble_eq_true rfl) (fun a hF => ?_)
  apply wp_seq_k; intro K1 hK1
  refine wp_region_lit ?_
  refine vc_y hF rfl rfl (by decide) _ (y_assign rfl rfl) (fun a hF => ?_)
  refine vc_nil ?_
  refine hK1 _ _ ?_; clear  hK1 K1
  apply wp_seq_k; intro K2 hK2
  refine wp_region_lit ?_
  refine vc_y hF rfl rfl (by decide) _ (y_move rfl rfl) (fun a hF => ?_)
  refine vc_y hF rfl rfl (by decide) _ (y_cmp rfl rfl rfl rfl rfl) (fun a hF => ?_)
  refine vc_y hF rfl rfl (by decide) _ (y_move rfl rfl) (fun a hF => ?_)
  refine vc_meet (l2 := ?lA1) hF [(8, .bool ((cmpB .geq ((c.toNat : Int)) (48)) && (cmpB .leq ((c.toNat : Int)) (57)))), (0, .int .u8 (c.toNat : Int)), (2, .bool false)] (fun hJ1 => ?elA1) (fun a hF => ?flA1)
  case elA1 =>
    rcases tf (cmpB .geq ((c.toNat : Int)) (48)) with hg1 | hg1
    · refine vc_skip hF rfl rfl rfl rfl rfl (ne_want hg1) (by decide) (fun a hF => ?_)
      refine vc_skip hF rfl rfl rfl rfl rfl (ne_want hg1) (by decide) (fun a hF => ?_)
      refine vc_y hF rfl rfl (by decide) _ (y_pickF hg1 rfl rfl rfl) (fun a hF => ?_)
      exact hJ1 _ ((hF.keep [8, 0, 2] (F' := [(8, _), (0, _), (2, _)]) rfl).bool (by rw [hg1]; rfl))
    · refine vc_yg hF rfl rfl rfl rfl (some_bool hg1) (by decide) _ (y_move rfl rfl) (fun a hF => ?_)
      refine vc_yg hF rfl rfl rfl rfl (some_bool hg1) (by decide) _ (y_cmp rfl rfl rfl rfl rfl) (fun a hF => ?_)
      refine vc_y hF rfl rfl (by decide) _ (y_pickT hg1 rfl rfl rfl) (fun a hF => ?_)
      exact hJ1 _ ((hF.keep [8, 0, 2] (F' := [(8, _), (0, _), (2, _)]) rfl).bool (by rw [hg1]; rfl))
  refine vc_y hF rfl rfl (by decide) _ (y_assign rfl rfl) (fun a hF => ?_)
  refine vc_nil ?_
  refine hK2 _ _ ?_; clear  hK2 K2
  apply wp_ret
  refine vc_ret1 hF Tryz.results201 rfl ?_
  exact ⟨by rw [digC_eq], rfl⟩
theorem wordC_eq (c : UInt8) : ((lowC c || digC c) || cmpB .eql (c.toNat : Int) (95)) = wordC c := by
  unfold wordC cmpB
  congr 1
  rw [Bool.eq_iff_iff]
  simp only [decide_eq_true_eq, beq_iff_eq]
  rw [← UInt8.toNat_inj]
  show (c.toNat : Int) = 95 ↔ c.toNat = 95
  omega

set_option maxRecDepth 100000 in
set_option maxHeartbeats 1000000 in
theorem ev_ofWord (c : UInt8) (w : World) : Calls Tryz.prog 171 #[.int .u8 (c.toNat : Int)] w fun e w' => e = .returned (.bool (wordC c)) ∧ w = w' := by
  refine vc_enter Tryz.func171 rfl Tryz.ntmps171 (Nat.le_of_ble_eq_true rfl) (fun a hF => ?_)
  apply wp_seq_k; intro K1 hK1
  refine wp_region_lit ?_
  refine vc_y hF rfl rfl (by decide) _ (y_assign rfl rfl) (fun a hF => ?_)
  refine vc_nil ?_
  refine hK1 _ _ ?_; clear  hK1 K1
  apply wp_seq_k; intro K2 hK2
  refine wp_region_lit ?_
  refine vc_y hF rfl rfl (by decide) _ (y_move rfl rfl) (fun a hF => ?_)
  refine vc_op rfl (fun K hK => ws_call hF rfl (by decide) cl170_v1 rfl rfl ?_)
  with_reducible refine (ev_letter c _ ).mono ?_
  rintro e' w3 ⟨rfl, rfl⟩
  refine ⟨_, rfl, fun a hF => hK _ _ ?_⟩
  clear hK K
  refine vc_y hF rfl rfl (by decide) _ (y_move rfl rfl) (fun a hF => ?_)
  refine vc_meet (l2 := ?lA1) hF [(8, .bool ((lowC c) || (digC c))), (0, .int .u8 (c.toNat : Int)), (2, .bool false)] (fun hJ1 => ?elA1) (fun a hF => ?flA1)
  case elA1 =>
    rcases tf (lowC c) with hg1 | hg1
    · refine vc_yg hF rfl rfl rfl rfl (some_bool hg1) (by decide) _ (y_move rfl rfl) (fun a hF => ?_)
      refine vc_opg hF rfl rfl rfl (some_bool hg1) (fun K hK => ws_call hF rfl (by decide) cl201_v1 rfl rfl ?_)
      with_reducible refine (ev_digit c _ ).mono ?_
      rintro e' w6 ⟨rfl, rfl⟩
      refine ⟨_, rfl, fun a hF => hK _ _ ?_⟩
      clear hK K
      refine vc_y hF rfl rfl (by decide) _ (y_pickF hg1 rfl rfl rfl) (fun a hF => ?_)
      exact hJ1 _ ((hF.keep [8, 0, 2] (F' := [(8, _), (0, _), (2, _)]) rfl).bool (by rw [hg1]; rfl))
    · refine vc_skip hF rfl rfl rfl rfl rfl (ne_want hg1) (by decide) (fun a hF => ?_)
      refine vc_skip hF rfl rfl rfl rfl rfl (ne_want hg1) (by decide) (fun a hF => ?_)
      refine vc_y hF rfl rfl (by decide) _ (y_pickT hg1 rfl rfl rfl) (fun a hF => ?_)
      exact hJ1 _ ((hF.keep [8, 0, 2] (F' := [(8, _), (0, _), (2, _)]) rfl).bool (by rw [hg1]; rfl))
  refine vc_y hF rfl rfl (by decide) _ (y_move rfl rfl) (fun a hF => ?_)
  refine vc_meet (l2 := ?lA2) hF [(12, .bool (((lowC c) || (digC c)) || (cmpB .eql ((c.toNat : Int)) (95)))), (0, .int .u8 (c.toNat : Int)), (2, .bool false)] (fun hJ2 => ?elA2) (fun a hF => ?flA2)
  case elA2 =>
    rcases tf ((lowC c) || (digC c)) with hg2 | hg2
    · refine vc_yg hF rfl rfl rfl rfl (some_bool hg2) (by decide) _ (y_move rfl rfl) (fun a hF => ?_)
      refine vc_yg hF rfl rfl rfl rfl (some_bool hg2) (by decide) _ (y_cmp rfl rfl rfl rfl rfl) (fun a hF => ?_)
      refine vc_y hF rfl rfl (by decide) _ (y_pickF hg2 rfl rfl rfl) (fun a hF => ?_)
      exact hJ2 _ ((hF.keep [12, 0, 2] (F' := [(12, _), (0, _), (2, _)]) rfl).bool (by rw [hg2]; rfl))
    · refine vc_skip hF rfl rfl rfl rfl rfl (ne_want hg2) (by decide) (fun a hF => ?_)
      refine vc_skip hF rfl rfl rfl rfl rfl (ne_want hg2) (by decide) (fun a hF => ?_)
      refine vc_y hF rfl rfl (by decide) _ (y_pickT hg2 rfl rfl rfl) (fun a hF => ?_)
      exact hJ2 _ ((hF.keep [12, 0, 2] (F' := [(12, _), (0, _), (2, _)]) rfl).bool (by rw [hg2]; rfl))
  refine vc_y hF rfl rfl (by decide) _ (y_assign rfl rfl) (fun a hF => ?_)
  refine vc_nil ?_
  refine hK2 _ _ ?_; clear  hK2 K2
  apply wp_ret
  refine vc_ret1 hF Tryz.results171 rfl ?_
  exact ⟨by rw [wordC_eq], rfl⟩
theorem first_at {s : List UInt8} {x : Bool} (h : ((cmpB .eql ((s.length : Nat) : Int) 0) || x) = false) : s[0]? = some (bAt s 0) := bAt_lt (by
  have h1 := (Bool.or_eq_false_iff.1 h).1
  simp [cmpB] at h1
  exact List.length_pos_iff.2 h1)
theorem starts_head {s : List UInt8} (h : (((cmpB .eql ((s.length : Nat) : Int) 0) || (cmpB .gtr ((s.length : Nat) : Int) 64)) || (!(lowC (bAt s 0)))) = false) : 1 ≤ s.length ∧ s.length ≤ 64 ∧ lowC (bAt s 0) = true := by
  rw [Bool.or_eq_false_iff, Bool.or_eq_false_iff] at h
  obtain ⟨⟨h1, h2⟩, h3⟩ := h
  simp [cmpB] at h1 h2
  exact ⟨List.length_pos_iff.2 h1, by omega, by simpa using h3⟩
theorem starts_none {s : List UInt8} (h : (((cmpB .eql ((s.length : Nat) : Int) 0) || (cmpB .gtr ((s.length : Nat) : Int) 64)) || (!(lowC (bAt s 0)))) = true) : startsN s = false := by
  cases hs : startsN s with
  | false => rfl
  | true =>
    unfold startsN at hs
    rw [Bool.and_eq_true, Bool.and_eq_true, decide_eq_true_eq] at hs
    obtain ⟨⟨⟨h1, h2⟩, h3⟩, _⟩ := hs
    rw [h3] at h
    simp [cmpB] at h
    rcases h with h | h
    · rw [h] at h1; exact absurd h1 (by decide)
    · omega
theorem all_take {s : List UInt8} {i : Nat} {b : UInt8} {p : UInt8 → Bool} (hb : s[i]? = some b) (h : (s.take i).all p = true) (hp : p b = true) : (s.take (i + 1)).all p = true := by
  rw [List.take_add_one, hb, List.all_append, h]
  simp [hp]
theorem all_no {s : List UInt8} {i : Nat} {p : UInt8 → Bool} (hi : i < s.length) (hp : p (bAt s i) = false) : s.all p = false := by
  cases h : s.all p with
  | false => rfl
  | true =>
    rw [List.all_eq_true] at h
    have := h _ (List.mem_of_getElem? (bAt_lt hi))
    rw [hp] at this
    exact absurd this (by decide)
theorem starts_bad {s : List UInt8} {i : Nat} (hi : i < s.length) (hp : wordC (bAt s i) = false) : startsN s = false := by
  unfold startsN
  rw [all_no hi hp, Bool.and_false]
theorem starts_good {s : List UInt8} (h : 1 ≤ s.length ∧ s.length ≤ 64 ∧ lowC (bAt s 0) = true) (ha : (s.take s.length).all wordC = true) : startsN s = true := by
  rw [List.take_length] at ha
  unfold startsN
  rw [ha, h.2.2, decide_eq_true ⟨h.1, h.2.1⟩]
  rfl

set_option maxRecDepth 100000 in
set_option maxHeartbeats 1000000 in
theorem ev_starts {w0 : World} {R : List Seg} (s : List UInt8) (w : World) (hA : Hp w0 R w) : Calls Tryz.prog 143 #[strV s] w fun e w' => e = .returned (.bool (startsN s)) ∧ w = w' := by
  refine vc_enter Tryz.func143 rfl Tryz.ntmps143 (Nat.le_of_ble_eq_true rfl) (fun a hF => ?_)
  apply wp_seq_k; intro K1 hK1
  refine wp_region_lit ?_
  refine vc_y hF rfl rfl (by decide) _ (y_assign rfl rfl) (fun a hF => ?_)
  refine vc_nil ?_
  refine hK1 _ _ ?_; clear  hK1 K1
  apply wp_seq_k; intro K2 hK2
  apply wp_seq_k; intro K3 hK3
  refine wp_region_lit ?_
  refine vc_y hF rfl rfl (by decide) _ (y_move rfl rfl) (fun a hF => ?_)
  refine vc_y hF rfl rfl (by decide) _ (y_lenStr (z := (s.length : Nat)) rfl Tryz.underlying9 rfl rfl) (fun a hF => ?_)
  refine vc_y hF rfl rfl (by decide) _ (y_cmp rfl rfl rfl rfl rfl) (fun a hF => ?_)
  refine vc_y hF rfl rfl (by decide) _ (y_move rfl rfl) (fun a hF => ?_)
  refine vc_meet (l2 := ?lA1) hF [(11, .bool ((cmpB .eql ((s.length : Nat)) (0)) || (cmpB .gtr ((s.length : Nat)) (64)))), (0, strV s), (2, .bool false)] (fun hJ1 => ?elA1) (fun a hF => ?flA1)
  case elA1 =>
    rcases tf (cmpB .eql ((s.length : Nat)) (0)) with hg1 | hg1
    · refine vc_yg hF rfl rfl rfl rfl (some_bool hg1) (by decide) _ (y_move rfl rfl) (fun a hF => ?_)
      refine vc_yg hF rfl rfl rfl rfl (some_bool hg1) (by decide) _ (y_lenStr (z := (s.length : Nat)) rfl Tryz.underlying9 rfl rfl) (fun a hF => ?_)
      refine vc_yg hF rfl rfl rfl rfl (some_bool hg1) (by decide) _ (y_cmp rfl rfl rfl rfl rfl) (fun a hF => ?_)
      refine vc_y hF rfl rfl (by decide) _ (y_pickF hg1 rfl rfl rfl) (fun a hF => ?_)
      exact hJ1 _ ((hF.keep [11, 0, 2] (F' := [(11, _), (0, _), (2, _)]) rfl).bool (by rw [hg1]; rfl))
    · refine vc_skip hF rfl rfl rfl rfl rfl (ne_want hg1) (by decide) (fun a hF => ?_)
      refine vc_skip hF rfl rfl rfl rfl rfl (ne_want hg1) (by decide) (fun a hF => ?_)
      refine vc_skip hF rfl rfl rfl rfl rfl (ne_want hg1) (by decide) (fun a hF => ?_)
      refine vc_y hF rfl rfl (by decide) _ (y_pickT hg1 rfl rfl rfl) (fun a hF => ?_)
      exact hJ1 _ ((hF.keep [11, 0, 2] (F' := [(11, _), (0, _), (2, _)]) rfl).bool (by rw [hg1]; rfl))
  refine vc_y hF rfl rfl (by decide) _ (y_move rfl rfl) (fun a hF => ?_)
  refine vc_meet (l2 := ?lA2) hF [(17, .bool (((cmpB .eql ((s.length : Nat)) (0)) || (cmpB .gtr ((s.length : Nat)) (64))) || (!(lowC (bAt s 0))))), (0, strV s), (2, .bool false)] (fun hJ2 => ?elA2) (fun a hF => ?flA2)
  case elA2 =>
    rcases tf ((cmpB .eql ((s.length : Nat)) (0)) || (cmpB .gtr ((s.length : Nat)) (64))) with hg2 | hg2
    · refine vc_yg hF rfl rfl rfl rfl (some_bool hg2) (by decide) _ (y_move rfl rfl) (fun a hF => ?_)
      refine vc_yg hF rfl rfl rfl rfl (some_bool hg2) (by decide) _ (y_indexS rfl Tryz.underlying9 rfl rfl 0 rfl (first_at hg2)) (fun a hF => ?_)
      refine vc_opg hF rfl rfl rfl (some_bool hg2) (fun K hK => ws_call hF rfl (by decide) cl170_v1 rfl rfl ?_)
      with_reducible refine (ev_letter (bAt s 0) _ ).mono ?_
      rintro e' w3 ⟨rfl, rfl⟩
      refine ⟨_, rfl, fun a hF => hK _ _ ?_⟩
      clear hK K
      refine vc_yg hF rfl rfl rfl rfl (some_bool hg2) (by decide) _ (y_not rfl rfl rfl) (fun a hF => ?_)
      refine vc_y hF rfl rfl (by decide) _ (y_pickF hg2 rfl rfl rfl) (fun a hF => ?_)
      exact hJ2 _ ((hF.keep [17, 0, 2] (F' := [(17, _), (0, _), (2, _)]) rfl).bool (by rw [hg2]; rfl))
    · refine vc_skip hF rfl rfl rfl rfl rfl (ne_want hg2) (by decide) (fun a hF => ?_)
      refine vc_skip hF rfl rfl rfl rfl rfl (ne_want hg2) (by decide) (fun a hF => ?_)
      refine vc_skip hF rfl rfl rfl rfl rfl (ne_want hg2) (by decide) (fun a hF => ?_)
      refine vc_skip hF rfl rfl rfl rfl rfl (ne_want hg2) (by decide) (fun a hF => ?_)
      refine vc_y hF rfl rfl (by decide) _ (y_pickT hg2 rfl rfl rfl) (fun a hF => ?_)
      exact hJ2 _ ((hF.keep [17, 0, 2] (F' := [(17, _), (0, _), (2, _)]) rfl).bool (by rw [hg2]; rfl))
  refine vc_nil ?_
  refine hK3 _ _ ?_; clear  hK3 K3
  rcases tf (((cmpB .eql ((s.length : Nat)) (0)) || (cmpB .gtr ((s.length : Nat)) (64))) || (!(lowC (bAt s 0)))) with hs | hs
  · refine vc_falseB hF rfl hs ?_
    obtain ⟨hl1, hl2, hl3⟩ := starts_head hs
    apply wp_skip
    refine hK2 _ _ ?_; clear  hK2 K2
    apply wp_seq_k; intro K4 hK4
    apply wp_seq_k; intro K5 hK5
    refine wp_region_lit ?_
    refine vc_y hF rfl rfl (by decide) _ (y_move rfl rfl) (fun a hF => ?_)
    refine vc_y hF rfl rfl (by decide) _ (y_lenStr (z := (s.length : Nat)) rfl Tryz.underlying9 rfl rfl) (fun a hF => ?_)
    refine vc_y hF rfl rfl (by decide) _ (y_move rfl rfl) (fun a hF => ?_)
    refine vc_nil ?_
    refine hK5 _ _ ?_; clear  hK5 K5
    apply wp_block
    refine vc_loop (G := Nat) (fun i a x => i ≤ s.length ∧ (s.take i).all wordC = true ∧ w = x ∧ Fr 29 [(20, .int .i64 (i : Int)), (0, strV s), (19, .int .i64 (s.length : Nat))] a ∧ Hp w0 (R) x) (fun i => s.length - i) 0 (⟨Nat.zero_le _, rfl, rfl, hF.keep [20, 0, 19] rfl, hA⟩) ?_
    clear hF
    rintro i a w5 ⟨hi, hall, hww, hF, hA4⟩
    apply wp_seq_k; intro K6 hK6
    refine wp_region_lit ?_
    refine vc_y hF rfl rfl (by decide) _ (y_cmp rfl rfl rfl rfl rfl) (fun a hF => ?_)
    refine vc_nil ?_
    refine hK6 _ _ ?_; clear  hK6 K6
    apply wp_seq_k; intro K7 hK7
    by_cases hlt : i < s.length
    · refine vc_trueB hF rfl (lss_t (by omega)) ?_
      have hat := bAt_lt (l := s) hlt
      apply wp_skip
      refine hK7 _ _ ?_; clear  hK7 K7
      apply wp_seq_k; intro K8 hK8
      apply wp_block
      apply wp_seq_k; intro K9 hK9
      refine wp_region_lit ?_
      refine vc_y hF rfl rfl (by decide) _ (y_move rfl rfl) (fun a hF => ?_)
      refine vc_y hF rfl rfl (by decide) _ (y_assign rfl rfl) (fun a hF => ?_)
      refine vc_nil ?_
      refine hK9 _ _ ?_; clear  hK9 K9
      apply wp_seq_k; intro K10 hK10
      refine wp_region_lit ?_
      refine vc_y hF rfl rfl (by decide) _ (y_move rfl rfl) (fun a hF => ?_)
      refine vc_y hF rfl rfl (by decide) _ (y_move rfl rfl) (fun a hF => ?_)
      refine vc_y hF rfl rfl (by decide) _ (y_indexS rfl Tryz.underlying9 rfl rfl i rfl hat) (fun a hF => ?_)
      refine vc_op rfl (fun K hK => ws_call hF rfl (by decide) cl171_v1 rfl rfl ?_)
      with_reducible refine (ev_ofWord (bAt s i) _ ).mono ?_
      rintro e' w8 ⟨rfl, rfl⟩
      refine ⟨_, rfl, fun a hF => hK _ _ ?_⟩
      clear hK K
      refine vc_y hF rfl rfl (by decide) _ (y_not rfl rfl rfl) (fun a hF => ?_)
      refine vc_nil ?_
      refine hK10 _ _ ?_; clear  hK10 K10
      rcases tf (wordC (bAt s i)) with hw | hw
      · refine vc_trueB hF rfl (by rw [hw]; rfl) ?_
        apply wp_seq_k; intro K11 hK11
        refine wp_region_lit ?_
        refine vc_y hF rfl rfl (by decide) _ (y_assign rfl rfl) (fun a hF => ?_)
        refine vc_nil ?_
        refine hK11 _ _ ?_; clear  hK11 K11
        apply wp_ret
        simp only [Exit.then, Exit.inBlock]
        refine vc_ret1 hF Tryz.results143 rfl ?_
        exact ⟨by rw [starts_bad hlt hw], hww⟩
      · refine vc_falseB hF rfl (by rw [hw]; rfl) ?_
        apply wp_skip
        refine hK8 _ _ ?_; clear  hK8 K8
        refine wp_region_lit ?_
        refine vc_y hF rfl rfl (by decide) _ (y_add rfl rfl rfl (IntWalk.i64_in _ (by omega))) (fun a hF => ?_)
        refine vc_y hF rfl rfl (by decide) _ (y_move rfl rfl) (fun a hF => ?_)
        refine vc_nil ?_
        exact ⟨i + 1, by omega, by omega, all_take hat hall hw, hww, hF.keep [20, 0, 19] rfl, hA4⟩
    · refine vc_falseB hF rfl (lss_f (by omega)) ?_
      obtain rfl : i = s.length := by omega
      apply wp_exit
      refine hK4 _ _ ?_; clear hK7 K7 hK4 K4
      apply wp_seq_k; intro K12 hK12
      refine wp_region_lit ?_
      refine vc_y hF rfl rfl (by decide) _ (y_assign rfl rfl) (fun a hF => ?_)
      refine vc_nil ?_
      refine hK12 _ _ ?_; clear  hK12 K12
      apply wp_ret
      refine vc_ret1 hF Tryz.results143 rfl ?_
      exact ⟨by rw [starts_good ⟨hl1, hl2, hl3⟩ hall], hww⟩
  · refine vc_trueB hF rfl hs ?_
    apply wp_seq_k; intro K13 hK13
    refine wp_region_lit ?_
    refine vc_y hF rfl rfl (by decide) _ (y_assign rfl rfl) (fun a hF => ?_)
    refine vc_nil ?_
    refine hK13 _ _ ?_; clear  hK13 K13
    apply wp_ret
    simp only [Exit.then]
    refine vc_ret1 hF Tryz.results143 rfl ?_
    exact ⟨by rw [starts_none hs], rfl⟩
/-- the table of the reserved words -/
def TabS (w0 : World) : Prop := Rc w0 [] (some ⟨1, 0, none⟩) (reserved.map strV)

set_option maxRecDepth 100000 in
set_option maxHeartbeats 1000000 in
theorem ev_word {w0 : World} {R : List Seg} (s : List UInt8) (w : World) (hT : TabS w0) (hA : Hp w0 R w) : Calls Tryz.prog 172 #[strV s] w fun e w' => ∃ z : Int, e = .returned (.int .u8 z) ∧ decide (z ≠ 0) = reserved.contains s ∧ w = w' := by
  obtain ⟨_, _, hb, hc⟩ := hT.ne (i := 0) (by decide)
  injection hb with hb
  injection hb with hb1 hb2
  subst hb1 hb2
  refine vc_enter Tryz.func172 rfl Tryz.ntmps172 (Nat.le_of_ble_eq_true rfl) (fun a hF => ?_)
  apply wp_seq_k; intro K1 hK1
  refine wp_region_lit ?_
  refine vc_y hF rfl rfl (by decide) _ (y_assign rfl rfl) (fun a hF => ?_)
  refine vc_nil ?_
  refine hK1 _ _ ?_; clear  hK1 K1
  apply wp_seq_k; intro K2 hK2
  apply wp_seq_k; intro K3 hK3
  refine wp_region_lit ?_
  refine vc_y hF rfl rfl (by decide) _ (y_ldRowC (new := reserved.map strV) rfl (Hq.sub hA.q (List.nil_subset _)) rfl hc 0 (by decide) rfl (by rw [List.drop_zero]; exact List.take_of_length_le (by decide)) rw240_v1) (fun a hF => ?_)
  refine vc_y hF rfl rfl (by decide) _ (y_move rfl rfl) (fun a hF => ?_)
  refine vc_nil ?_
  refine hK3 _ _ ?_; clear  hK3 K3
  apply wp_block
  refine vc_loop (G := Nat) (fun i a x => i ≤ 35 ∧ (∀ j, j < i → reserved[j]? ≠ some s) ∧ w = x ∧ Fr 17 [(6, .int .i64 (i : Int)), (0, strV s), (5, .agg (reserved.map strV).toArray)] a ∧ Hp w0 (R) x) (fun i => 35 - i) 0 (⟨(by decide), (fun j hj => absurd hj (Nat.not_lt_zero _)), rfl, hF.keep [6, 0, 5] rfl, hA⟩) ?_
  clear hF
  rintro i a w2 ⟨hi, hall, hww, hF, hA1⟩
  apply wp_seq_k; intro K4 hK4
  refine wp_region_lit ?_
  refine vc_y hF rfl rfl (by decide) _ (y_cmp rfl rfl rfl rfl rfl) (fun a hF => ?_)
  refine vc_nil ?_
  refine hK4 _ _ ?_; clear  hK4 K4
  apply wp_seq_k; intro K5 hK5
  by_cases hlt : i < 35
  · refine vc_trueB hF rfl (lss_t (by omega)) ?_
    obtain ⟨u, hu⟩ : ∃ u, reserved[i]? = some u := ⟨_, List.getElem?_eq_getElem (show i < reserved.length from hlt)⟩
    apply wp_skip
    refine hK5 _ _ ?_; clear  hK5 K5
    apply wp_seq_k; intro K6 hK6
    apply wp_block
    apply wp_seq_k; intro K7 hK7
    refine wp_region_lit ?_
    refine vc_y hF rfl rfl (by decide) _ (y_move rfl rfl) (fun a hF => ?_)
    refine vc_y hF rfl rfl (by decide) _ (y_indexT (v := strV u) rfl Tryz.underlying240 Tryz.underlying9 sz9_v1 rfl rfl i rfl (by omega) (by rw [List.getElem?_map, hu]; rfl)) (fun a hF => ?_)
    refine vc_y hF rfl rfl (by decide) _ (y_assign rfl rfl) (fun a hF => ?_)
    refine vc_y hF rfl rfl (by decide) _ (y_assign rfl rfl) (fun a hF => ?_)
    refine vc_nil ?_
    refine hK7 _ _ ?_; clear  hK7 K7
    apply wp_seq_k; intro K8 hK8
    refine wp_region_lit ?_
    refine vc_y hF rfl rfl (by decide) _ (y_move rfl rfl) (fun a hF => ?_)
    refine vc_y hF rfl rfl (by decide) _ (y_move rfl rfl) (fun a hF => ?_)
    refine vc_y hF rfl rfl (by decide) _ (y_cmpS rfl rfl rfl rfl rfl) (fun a hF => ?_)
    refine vc_nil ?_
    refine hK8 _ _ ?_; clear  hK8 K8
    rcases tf (strB .eql u s) with he | he
    · refine vc_falseB hF rfl he ?_
      apply wp_skip
      refine hK6 _ _ ?_; clear  hK6 K6
      refine wp_region_lit ?_
      refine vc_y hF rfl rfl (by decide) _ (y_add rfl rfl rfl (IntWalk.i64_in _ (by omega))) (fun a hF => ?_)
      refine vc_y hF rfl rfl (by decide) _ (y_move rfl rfl) (fun a hF => ?_)
      refine vc_nil ?_
      exact ⟨i + 1, by omega, by omega, (fun j hj hh => by
        rcases Nat.lt_succ_iff_lt_or_eq.1 hj with h | rfl
        · exact hall j h hh
        · rw [hu] at hh; injection hh with hh; subst hh; simp [strB] at he), hww, hF.keep [6, 0, 5] rfl, hA1⟩
    · replace he : u = s := by simpa [strB] using he
      subst he
      refine vc_trueB hF rfl (by simp [strB]) ?_
      apply wp_seq_k; intro K9 hK9
      refine wp_region_lit ?_
      refine vc_y hF rfl rfl (by decide) _ (y_move rfl rfl) (fun a hF => ?_)
      refine vc_y hF rfl rfl (by decide) _ (y_conv rfl Tryz.underlying3 Tryz.underlying224 rfl (show IntKind.u8.wrap ((i : Int)) = (i : Int) by rw [IntKind.wrap_u8]; omega)) (fun a hF => ?_)
      refine vc_y hF rfl rfl (by decide) _ (y_add rfl rfl rfl (show IntKind.u8.wrap ((23 : Int) + (i : Int)) = ((23 + i : Nat) : Int) by rw [IntKind.wrap_u8]; omega)) (fun a hF => ?_)
      refine vc_y hF rfl rfl (by decide) _ (y_assign rfl rfl) (fun a hF => ?_)
      refine vc_nil ?_
      refine hK9 _ _ ?_; clear  hK9 K9
      apply wp_ret
      simp only [Exit.then, Exit.inBlock]
      refine vc_ret1 hF Tryz.results172 rfl ?_
      exact ⟨_, rfl, by rw [show reserved.contains u = true from List.contains_iff_mem.2 (List.mem_of_getElem? hu)]; simp; omega, hww⟩
  · refine vc_falseB hF rfl (lss_f (by omega)) ?_
    obtain rfl : i = 35 := by omega
    apply wp_exit
    refine hK2 _ _ ?_; clear hK5 K5 hK2 K2
    apply wp_seq_k; intro K10 hK10
    refine wp_region_lit ?_
    refine vc_y hF rfl rfl (by decide) _ (y_assign rfl rfl) (fun a hF => ?_)
    refine vc_nil ?_
    refine hK10 _ _ ?_; clear  hK10 K10
    apply wp_ret
    refine vc_ret1 hF Tryz.results172 rfl ?_
    have hno : reserved.contains s = false := by
      cases h : reserved.contains s with
      | false => rfl
      | true =>
        obtain ⟨j, hj⟩ := List.mem_iff_getElem?.1 (List.contains_iff_mem.1 h)
        exact absurd hj (hall j (by have := (List.getElem?_eq_some_iff.1 hj).1; exact this))
    exact ⟨0, rfl, by rw [hno]; simp, hww⟩

set_option maxRecDepth 100000 in
set_option maxHeartbeats 1000000 in
theorem ev_reserved {w0 : World} {R : List Seg} (s : List UInt8) (w : World) (hT : TabS w0) (hA : Hp w0 R w) : Calls Tryz.prog 144 #[strV s] w fun e w' => e = .returned (.bool (reserved.contains s)) ∧ w = w' := by
  refine vc_enter Tryz.func144 rfl Tryz.ntmps144 (Nat.le_of_ble_eq_true rfl) (fun a hF => ?_)
  apply wp_seq_k; intro K1 hK1
  refine wp_region_lit ?_
  refine vc_y hF rfl rfl (by decide) _ (y_assign rfl rfl) (fun a hF => ?_)
  refine vc_nil ?_
  refine hK1 _ _ ?_; clear  hK1 K1
  apply wp_seq_k; intro K2 hK2
  refine wp_region_lit ?_
  refine vc_y hF rfl rfl (by decide) _ (y_move rfl rfl) (fun a hF => ?_)
  refine vc_op rfl (fun K hK => ws_call hF rfl (by decide) cl172_v1 rfl rfl ?_)
  with_reducible refine (ev_word s _ hT hA ).mono ?_
  rintro e' w3 ⟨z, rfl, hz, rfl⟩
  refine ⟨_, rfl, fun a hF => hK _ _ ?_⟩
  clear hK K
  refine vc_y hF rfl rfl (by decide) _ (y_cmp rfl rfl rfl rfl rfl) (fun a hF => ?_)
  refine vc_y hF rfl rfl (by decide) _ (y_assign rfl rfl) (fun a hF => ?_)
  refine vc_nil ?_
  refine hK2 _ _ ?_; clear  hK2 K2
  apply wp_ret
  refine vc_ret1 hF Tryz.results144 rfl ?_
  exact ⟨by rw [← hz]; unfold cmpB; by_cases h : z = 0 <;> simp [h], rfl⟩

set_option maxRecDepth 100000 in
set_option maxHeartbeats 1000000 in
theorem ev_legal {w0 : World} {R : List Seg} (s : List UInt8) (w : World) (hT : TabS w0) (hA : Hp w0 R w) : Calls Tryz.prog 87 #[strV s] w fun e w' => e = .returned (.bool (legalN s)) ∧ w = w' := by
  refine vc_enter Tryz.func87 rfl Tryz.ntmps87 (Nat.le_of_ble_eq_true rfl) (fun a hF => ?_)
  apply wp_seq_k; intro K1 hK1
  refine wp_region_lit ?_
  refine vc_y hF rfl rfl (by decide) _ (y_assign rfl rfl) (fun a hF => ?_)
  refine vc_nil ?_
  refine hK1 _ _ ?_; clear  hK1 K1
  apply wp_seq_k; intro K2 hK2
  refine wp_region_lit ?_
  refine vc_y hF rfl rfl (by decide) _ (y_move rfl rfl) (fun a hF => ?_)
  refine vc_op rfl (fun K hK => ws_call hF rfl (by decide) cl143_v1 rfl rfl ?_)
  with_reducible refine (ev_starts s _ hA ).mono ?_
  rintro e' w3 ⟨rfl, rfl⟩
  refine ⟨_, rfl, fun a hF => hK _ _ ?_⟩
  clear hK K
  refine vc_y hF rfl rfl (by decide) _ (y_move rfl rfl) (fun a hF => ?_)
  refine vc_meet (l2 := ?lA1) hF [(9, .bool ((startsN s) && (!(reserved.contains s)))), (0, strV s), (2, .bool false)] (fun hJ1 => ?elA1) (fun a hF => ?flA1)
  case elA1 =>
    rcases tf (startsN s) with hg1 | hg1
    · refine vc_skip hF rfl rfl rfl rfl rfl (ne_want hg1) (by decide) (fun a hF => ?_)
      refine vc_skip hF rfl rfl rfl rfl rfl (ne_want hg1) (by decide) (fun a hF => ?_)
      refine vc_skip hF rfl rfl rfl rfl rfl (ne_want hg1) (by decide) (fun a hF => ?_)
      refine vc_y hF rfl rfl (by decide) _ (y_pickF hg1 rfl rfl rfl) (fun a hF => ?_)
      exact hJ1 _ ((hF.keep [9, 0, 2] (F' := [(9, _), (0, _), (2, _)]) rfl).bool (by rw [hg1]; rfl))
    · refine vc_yg hF rfl rfl rfl rfl (some_bool hg1) (by decide) _ (y_move rfl rfl) (fun a hF => ?_)
      refine vc_opg hF rfl rfl rfl (some_bool hg1) (fun K hK => ws_call hF rfl (by decide) cl144_v1 rfl rfl ?_)
      with_reducible refine (ev_reserved s _ hT hA ).mono ?_
      rintro e' w6 ⟨rfl, rfl⟩
      refine ⟨_, rfl, fun a hF => hK _ _ ?_⟩
      clear hK K
      refine vc_yg hF rfl rfl rfl rfl (some_bool hg1) (by decide) _ (y_not rfl rfl rfl) (fun a hF => ?_)
      refine vc_y hF rfl rfl (by decide) _ (y_pickT hg1 rfl rfl rfl) (fun a hF => ?_)
      exact hJ1 _ ((hF.keep [9, 0, 2] (F' := [(9, _), (0, _), (2, _)]) rfl).bool (by rw [hg1]; rfl))
  refine vc_y hF rfl rfl (by decide) _ (y_assign rfl rfl) (fun a hF => ?_)
  refine vc_nil ?_
  refine hK2 _ _ ?_; clear  hK2 K2
  apply wp_ret
  refine vc_ret1 hF Tryz.results87 rfl ?_
  exact ⟨rfl, rfl⟩
def caseX (z : Int) : Bool := ((cmpB .lss z 97 || cmpB .gtr z 122) && (cmpB .lss z 48 || cmpB .gtr z 57)) && cmpB .neq z 45
theorem caseX_eq (c : UInt8) : caseX (c.toNat : Int) = !caseC c := by
  unfold caseX caseC lowC digC
  have h : (c = 45) = (c.toNat = 45) := by rw [← UInt8.toNat_inj]; rfl
  simp only [h, cmpB]
  rw [Bool.eq_iff_iff]
  simp only [Bool.and_eq_true, Bool.or_eq_true, decide_eq_true_eq, bne_iff_ne, Bool.not_eq_true', Bool.or_eq_false_iff, decide_eq_false_iff_not]
  omega
theorem case_yes {c : UInt8} (h : caseX (c.toNat : Int) = false) : caseC c = true := by rw [caseX_eq] at h; simpa using h
theorem case_bad {s : List UInt8} {m : Int} {i : Nat} (hi : i < s.length) (hp : caseX ((bAt s i).toNat : Int) = true) : legalC s m = false := by
  unfold legalC
  rw [all_no hi (by rw [caseX_eq] at hp; simpa using hp), Bool.and_false]
theorem case_head {s : List UInt8} {m : Int} (h : (cmpB .eql ((s.length : Nat) : Int) 0 || cmpB .gtr ((s.length : Nat) : Int) m) = false) : 1 ≤ s.length ∧ (s.length : Int) ≤ m := by
  rw [Bool.or_eq_false_iff] at h
  obtain ⟨h1, h2⟩ := h
  simp [cmpB] at h1 h2
  exact ⟨List.length_pos_iff.2 h1, by omega⟩
theorem case_none {s : List UInt8} {m : Int} (h : (cmpB .eql ((s.length : Nat) : Int) 0 || cmpB .gtr ((s.length : Nat) : Int) m) = true) : legalC s m = false := by
  unfold legalC
  rw [decide_eq_false (fun hh => by
    simp [cmpB] at h
    rcases h with h | h
    · rw [h] at hh; exact absurd hh.1 (by decide)
    · omega), Bool.false_and]
theorem case_good {s : List UInt8} {m : Int} (h : 1 ≤ s.length ∧ (s.length : Int) ≤ m) (ha : (s.take s.length).all caseC = true) : legalC s m = true := by
  rw [List.take_length] at ha
  unfold legalC
  rw [ha, decide_eq_true h]
  rfl

set_option maxRecDepth 100000 in
set_option maxHeartbeats 1000000 in
theorem ev_case {w0 : World} {R : List Seg} (s : List UInt8) (m : Int) (_hm : m ≤ 9223372036854775807) (w : World) (hA : Hp w0 R w) : Calls Tryz.prog 136 #[strV s, .int .i64 m] w fun e w' => e = .returned (.bool (legalC s m)) ∧ w = w' := by
  refine vc_enter Tryz.func136 rfl Tryz.ntmps136 (Nat.le_of_ble_eq_true rfl) (fun a hF => ?_)
  apply wp_seq_k; intro K1 hK1
  refine wp_region_lit ?_
  refine vc_y hF rfl rfl (by decide) _ (y_assign rfl rfl) (fun a hF => ?_)
  refine vc_nil ?_
  refine hK1 _ _ ?_; clear  hK1 K1
  apply wp_seq_k; intro K2 hK2
  apply wp_seq_k; intro K3 hK3
  refine wp_region_lit ?_
  refine vc_y hF rfl rfl (by decide) _ (y_move rfl rfl) (fun a hF => ?_)
  refine vc_y hF rfl rfl (by decide) _ (y_lenStr (z := (s.length : Nat)) rfl Tryz.underlying9 rfl rfl) (fun a hF => ?_)
  refine vc_y hF rfl rfl (by decide) _ (y_cmp rfl rfl rfl rfl rfl) (fun a hF => ?_)
  refine vc_y hF rfl rfl (by decide) _ (y_move rfl rfl) (fun a hF => ?_)
  refine vc_meet (l2 := ?lA1) hF [(15, .bool ((cmpB .eql ((s.length : Nat)) (0)) || (cmpB .gtr ((s.length : Nat)) (m)))), (0, strV s), (1, .int .i64 m), (4, .bool false)] (fun hJ1 => ?elA1) (fun a hF => ?flA1)
  case elA1 =>
    rcases tf (cmpB .eql ((s.length : Nat)) (0)) with hg1 | hg1
    · refine vc_yg hF rfl rfl rfl rfl (some_bool hg1) (by decide) _ (y_move rfl rfl) (fun a hF => ?_)
      refine vc_yg hF rfl rfl rfl rfl (some_bool hg1) (by decide) _ (y_lenStr (z := (s.length : Nat)) rfl Tryz.underlying9 rfl rfl) (fun a hF => ?_)
      refine vc_yg hF rfl rfl rfl rfl (some_bool hg1) (by decide) _ (y_move rfl rfl) (fun a hF => ?_)
      refine vc_yg hF rfl rfl rfl rfl (some_bool hg1) (by decide) _ (y_cmp rfl rfl rfl rfl rfl) (fun a hF => ?_)
      refine vc_y hF rfl rfl (by decide) _ (y_pickF hg1 rfl rfl rfl) (fun a hF => ?_)
      exact hJ1 _ ((hF.keep [15, 0, 1, 4] (F' := [(15, _), (0, _), (1, _), (4, _)]) rfl).bool (by rw [hg1]; rfl))
    · refine vc_skip hF rfl rfl rfl rfl rfl (ne_want hg1) (by decide) (fun a hF => ?_)
      refine vc_skip hF rfl rfl rfl rfl rfl (ne_want hg1) (by decide) (fun a hF => ?_)
      refine vc_skip hF rfl rfl rfl rfl rfl (ne_want hg1) (by decide) (fun a hF => ?_)
      refine vc_skip hF rfl rfl rfl rfl rfl (ne_want hg1) (by decide) (fun a hF => ?_)
      refine vc_y hF rfl rfl (by decide) _ (y_pickT hg1 rfl rfl rfl) (fun a hF => ?_)
      exact hJ1 _ ((hF.keep [15, 0, 1, 4] (F' := [(15, _), (0, _), (1, _), (4, _)]) rfl).bool (by rw [hg1]; rfl))
  refine vc_nil ?_
  refine hK3 _ _ ?_; clear  hK3 K3
  rcases tf ((cmpB .eql ((s.length : Nat)) (0)) || (cmpB .gtr ((s.length : Nat)) (m))) with hs | hs
  · refine vc_falseB hF rfl hs ?_
    have hh := case_head hs
    apply wp_skip
    refine hK2 _ _ ?_; clear  hK2 K2
    apply wp_seq_k; intro K4 hK4
    apply wp_seq_k; intro K5 hK5
    refine wp_region_lit ?_
    refine vc_y hF rfl rfl (by decide) _ (y_move rfl rfl) (fun a hF => ?_)
    refine vc_y hF rfl rfl (by decide) _ (y_lenStr (z := (s.length : Nat)) rfl Tryz.underlying9 rfl rfl) (fun a hF => ?_)
    refine vc_y hF rfl rfl (by decide) _ (y_move rfl rfl) (fun a hF => ?_)
    refine vc_nil ?_
    refine hK5 _ _ ?_; clear  hK5 K5
    apply wp_block
    refine vc_loop (G := Nat) (fun i a x => i ≤ s.length ∧ (s.take i).all caseC = true ∧ w = x ∧ Fr 43 [(18, .int .i64 (i : Int)), (0, strV s), (17, .int .i64 (s.length : Nat))] a ∧ Hp w0 (R) x) (fun i => s.length - i) 0 (⟨Nat.zero_le _, rfl, rfl, hF.keep [18, 0, 17] rfl, hA⟩) ?_
    clear hF
    rintro i a w2 ⟨hi, hall, hww, hF, hA1⟩
    apply wp_seq_k; intro K6 hK6
    refine wp_region_lit ?_
    refine vc_y hF rfl rfl (by decide) _ (y_cmp rfl rfl rfl rfl rfl) (fun a hF => ?_)
    refine vc_nil ?_
    refine hK6 _ _ ?_; clear  hK6 K6
    apply wp_seq_k; intro K7 hK7
    by_cases hlt : i < s.length
    · refine vc_trueB hF rfl (lss_t (by omega)) ?_
      have hat := bAt_lt (l := s) hlt
      apply wp_skip
      refine hK7 _ _ ?_; clear  hK7 K7
      apply wp_seq_k; intro K8 hK8
      apply wp_block
      apply wp_seq_k; intro K9 hK9
      refine wp_region_lit ?_
      refine vc_y hF rfl rfl (by decide) _ (y_move rfl rfl) (fun a hF => ?_)
      refine vc_y hF rfl rfl (by decide) _ (y_assign rfl rfl) (fun a hF => ?_)
      refine vc_nil ?_
      refine hK9 _ _ ?_; clear  hK9 K9
      apply wp_seq_k; intro K10 hK10
      refine wp_region_lit ?_
      refine vc_y hF rfl rfl (by decide) _ (y_move rfl rfl) (fun a hF => ?_)
      refine vc_y hF rfl rfl (by decide) _ (y_move rfl rfl) (fun a hF => ?_)
      refine vc_y hF rfl rfl (by decide) _ (y_indexS rfl Tryz.underlying9 rfl rfl i rfl hat) (fun a hF => ?_)
      refine vc_y hF rfl rfl (by decide) _ (y_assign rfl rfl) (fun a hF => ?_)
      refine vc_nil ?_
      refine hK10 _ _ ?_; clear  hK10 K10
      apply wp_seq_k; intro K11 hK11
      refine wp_region_lit ?_
      refine vc_y hF rfl rfl (by decide) _ (y_move rfl rfl) (fun a hF => ?_)
      refine vc_y hF rfl rfl (by decide) _ (y_cmp rfl rfl rfl rfl rfl) (fun a hF => ?_)
      refine vc_y hF rfl rfl (by decide) _ (y_move rfl rfl) (fun a hF => ?_)
      refine vc_meet (l2 := ?lA2) hF [(29, .bool ((cmpB .lss (((bAt s i).toNat : Int)) (97)) || (cmpB .gtr (((bAt s i).toNat : Int)) (122)))), (0, strV s), (17, .int .i64 (s.length : Nat)), (18, .int .i64 (i : Int)), (19, .bool (cmpB .lss ((i : Int)) ((s.length : Nat)))), (20, .int .i64 (i : Int)), (5, .int .i64 (i : Int)), (21, strV s), (22, .int .i64 (i : Int)), (23, .int .u8 ((bAt s i).toNat : Int)), (6, .int .u8 ((bAt s i).toNat : Int))] (fun hJ2 => ?elA2) (fun a hF => ?flA2)
      case elA2 =>
        rcases tf (cmpB .lss (((bAt s i).toNat : Int)) (97)) with hg2 | hg2
        · refine vc_yg hF rfl rfl rfl rfl (some_bool hg2) (by decide) _ (y_move rfl rfl) (fun a hF => ?_)
          refine vc_yg hF rfl rfl rfl rfl (some_bool hg2) (by decide) _ (y_cmp rfl rfl rfl rfl rfl) (fun a hF => ?_)
          refine vc_y hF rfl rfl (by decide) _ (y_pickF hg2 rfl rfl rfl) (fun a hF => ?_)
          exact hJ2 _ ((hF.keep [29, 0, 17, 18, 19, 20, 5, 21, 22, 23, 6] (F' := [(29, _), (0, _), (17, _), (18, _), (19, _), (20, _), (5, _), (21, _), (22, _), (23, _), (6, _)]) rfl).bool (by rw [hg2]; rfl))
        · refine vc_skip hF rfl rfl rfl rfl rfl (ne_want hg2) (by decide) (fun a hF => ?_)
          refine vc_skip hF rfl rfl rfl rfl rfl (ne_want hg2) (by decide) (fun a hF => ?_)
          refine vc_y hF rfl rfl (by decide) _ (y_pickT hg2 rfl rfl rfl) (fun a hF => ?_)
          exact hJ2 _ ((hF.keep [29, 0, 17, 18, 19, 20, 5, 21, 22, 23, 6] (F' := [(29, _), (0, _), (17, _), (18, _), (19, _), (20, _), (5, _), (21, _), (22, _), (23, _), (6, _)]) rfl).bool (by rw [hg2]; rfl))
      refine vc_y hF rfl rfl (by decide) _ (y_move rfl rfl) (fun a hF => ?_)
      refine vc_meet (l2 := ?lA3) hF [(37, .bool (((cmpB .lss (((bAt s i).toNat : Int)) (97)) || (cmpB .gtr (((bAt s i).toNat : Int)) (122))) && ((cmpB .lss (((bAt s i).toNat : Int)) (48)) || (cmpB .gtr (((bAt s i).toNat : Int)) (57))))), (0, strV s), (17, .int .i64 (s.length : Nat)), (18, .int .i64 (i : Int)), (19, .bool (cmpB .lss ((i : Int)) ((s.length : Nat)))), (20, .int .i64 (i : Int)), (5, .int .i64 (i : Int)), (21, strV s), (22, .int .i64 (i : Int)), (23, .int .u8 ((bAt s i).toNat : Int)), (6, .int .u8 ((bAt s i).toNat : Int))] (fun hJ3 => ?elA3) (fun a hF => ?flA3)
      case elA3 =>
        rcases tf ((cmpB .lss (((bAt s i).toNat : Int)) (97)) || (cmpB .gtr (((bAt s i).toNat : Int)) (122))) with hg3 | hg3
        · refine vc_skip hF rfl rfl rfl rfl rfl (ne_want hg3) (by decide) (fun a hF => ?_)
          refine vc_skip hF rfl rfl rfl rfl rfl (ne_want hg3) (by decide) (fun a hF => ?_)
          refine vc_skip hF rfl rfl rfl rfl rfl (ne_want hg3) (by decide) (fun a hF => ?_)
          refine vc_skipU hF rfl rfl rfl rfl rfl (by decide) (fun a hF => ?_)
          refine vc_skipU hF rfl rfl rfl rfl rfl (by decide) (fun a hF => ?_)
          refine vc_skip hF rfl rfl rfl rfl rfl (ne_want hg3) (by decide) (fun a hF => ?_)
          refine vc_y hF rfl rfl (by decide) _ (y_pickF hg3 rfl rfl rfl) (fun a hF => ?_)
          exact hJ3 _ ((hF.keep [37, 0, 17, 18, 19, 20, 5, 21, 22, 23, 6] (F' := [(37, _), (0, _), (17, _), (18, _), (19, _), (20, _), (5, _), (21, _), (22, _), (23, _), (6, _)]) rfl).bool (by rw [hg3]; rfl))
        · refine vc_yg hF rfl rfl rfl rfl (some_bool hg3) (by decide) _ (y_move rfl rfl) (fun a hF => ?_)
          refine vc_yg hF rfl rfl rfl rfl (some_bool hg3) (by decide) _ (y_cmp rfl rfl rfl rfl rfl) (fun a hF => ?_)
          refine vc_yg hF rfl rfl rfl rfl (some_bool hg3) (by decide) _ (y_move rfl rfl) (fun a hF => ?_)
          refine vc_meet (l2 := ?lA4) hF [(36, .bool ((cmpB .lss (((bAt s i).toNat : Int)) (48)) || (cmpB .gtr (((bAt s i).toNat : Int)) (57)))), (0, strV s), (17, .int .i64 (s.length : Nat)), (18, .int .i64 (i : Int)), (19, .bool (cmpB .lss ((i : Int)) ((s.length : Nat)))), (20, .int .i64 (i : Int)), (5, .int .i64 (i : Int)), (21, strV s), (22, .int .i64 (i : Int)), (23, .int .u8 ((bAt s i).toNat : Int)), (6, .int .u8 ((bAt s i).toNat : Int)), (30, .bool ((cmpB .lss (((bAt s i).toNat : Int)) (97)) || (cmpB .gtr (((bAt s i).toNat : Int)) (122))))] (fun hJ4 => ?elA4) (fun a hF => ?flA4)
          case elA4 =>
            rcases tf (cmpB .lss (((bAt s i).toNat : Int)) (48)) with hg4 | hg4
            · refine vc_yg hF rfl rfl rfl rfl (some_bool hg4) (by decide) _ (y_move rfl rfl) (fun a hF => ?_)
              refine vc_yg hF rfl rfl rfl rfl (some_bool hg4) (by decide) _ (y_cmp rfl rfl rfl rfl rfl) (fun a hF => ?_)
              refine vc_yg hF rfl rfl rfl rfl (some_bool hg3) (by decide) _ (y_pickF hg4 rfl rfl rfl) (fun a hF => ?_)
              exact hJ4 _ ((hF.keep [36, 0, 17, 18, 19, 20, 5, 21, 22, 23, 6, 30] (F' := [(36, _), (0, _), (17, _), (18, _), (19, _), (20, _), (5, _), (21, _), (22, _), (23, _), (6, _), (30, _)]) rfl).bool (by rw [hg4]; rfl))
            · refine vc_skip hF rfl rfl rfl rfl rfl (ne_want hg4) (by decide) (fun a hF => ?_)
              refine vc_skip hF rfl rfl rfl rfl rfl (ne_want hg4) (by decide) (fun a hF => ?_)
              refine vc_yg hF rfl rfl rfl rfl (some_bool hg3) (by decide) _ (y_pickT hg4 rfl rfl rfl) (fun a hF => ?_)
              exact hJ4 _ ((hF.keep [36, 0, 17, 18, 19, 20, 5, 21, 22, 23, 6, 30] (F' := [(36, _), (0, _), (17, _), (18, _), (19, _), (20, _), (5, _), (21, _), (22, _), (23, _), (6, _), (30, _)]) rfl).bool (by rw [hg4]; rfl))
          refine vc_y hF rfl rfl (by decide) _ (y_pickT hg3 rfl rfl rfl) (fun a hF => ?_)
          exact hJ3 _ ((hF.keep [37, 0, 17, 18, 19, 20, 5, 21, 22, 23, 6] (F' := [(37, _), (0, _), (17, _), (18, _), (19, _), (20, _), (5, _), (21, _), (22, _), (23, _), (6, _)]) rfl).bool (by rw [hg3]; rfl))
      refine vc_y hF rfl rfl (by decide) _ (y_move rfl rfl) (fun a hF => ?_)
      refine vc_meet (l2 := ?lA5) hF [(41, .bool ((((cmpB .lss (((bAt s i).toNat : Int)) (97)) || (cmpB .gtr (((bAt s i).toNat : Int)) (122))) && ((cmpB .lss (((bAt s i).toNat : Int)) (48)) || (cmpB .gtr (((bAt s i).toNat : Int)) (57)))) && (cmpB .neq (((bAt s i).toNat : Int)) (45)))), (0, strV s), (17, .int .i64 (s.length : Nat)), (18, .int .i64 (i : Int)), (19, .bool (cmpB .lss ((i : Int)) ((s.length : Nat)))), (20, .int .i64 (i : Int)), (5, .int .i64 (i : Int)), (21, strV s), (22, .int .i64 (i : Int)), (23, .int .u8 ((bAt s i).toNat : Int))] (fun hJ5 => ?elA5) (fun a hF => ?flA5)
      case elA5 =>
        rcases tf (((cmpB .lss (((bAt s i).toNat : Int)) (97)) || (cmpB .gtr (((bAt s i).toNat : Int)) (122))) && ((cmpB .lss (((bAt s i).toNat : Int)) (48)) || (cmpB .gtr (((bAt s i).toNat : Int)) (57)))) with hg5 | hg5
        · refine vc_skip hF rfl rfl rfl rfl rfl (ne_want hg5) (by decide) (fun a hF => ?_)
          refine vc_skip hF rfl rfl rfl rfl rfl (ne_want hg5) (by decide) (fun a hF => ?_)
          refine vc_y hF rfl rfl (by decide) _ (y_pickF hg5 rfl rfl rfl) (fun a hF => ?_)
          exact hJ5 _ ((hF.keep [41, 0, 17, 18, 19, 20, 5, 21, 22, 23] (F' := [(41, _), (0, _), (17, _), (18, _), (19, _), (20, _), (5, _), (21, _), (22, _), (23, _)]) rfl).bool (by rw [hg5]; rfl))
        · refine vc_yg hF rfl rfl rfl rfl (some_bool hg5) (by decide) _ (y_move rfl rfl) (fun a hF => ?_)
          refine vc_yg hF rfl rfl rfl rfl (some_bool hg5) (by decide) _ (y_cmp rfl rfl rfl rfl rfl) (fun a hF => ?_)
          refine vc_y hF rfl rfl (by decide) _ (y_pickT hg5 rfl rfl rfl) (fun a hF => ?_)
          exact hJ5 _ ((hF.keep [41, 0, 17, 18, 19, 20, 5, 21, 22, 23] (F' := [(41, _), (0, _), (17, _), (18, _), (19, _), (20, _), (5, _), (21, _), (22, _), (23, _)]) rfl).bool (by rw [hg5]; rfl))
      refine vc_nil ?_
      refine hK11 _ _ ?_; clear  hK11 K11
      rcases tf ((((cmpB .lss (((bAt s i).toNat : Int)) (97)) || (cmpB .gtr (((bAt s i).toNat : Int)) (122))) && ((cmpB .lss (((bAt s i).toNat : Int)) (48)) || (cmpB .gtr (((bAt s i).toNat : Int)) (57)))) && (cmpB .neq (((bAt s i).toNat : Int)) (45))) with hw | hw
      · refine vc_falseB hF rfl hw ?_
        apply wp_skip
        refine hK8 _ _ ?_; clear  hK8 K8
        refine wp_region_lit ?_
        refine vc_y hF rfl rfl (by decide) _ (y_add rfl rfl rfl (IntWalk.i64_in _ (by omega))) (fun a hF => ?_)
        refine vc_y hF rfl rfl (by decide) _ (y_move rfl rfl) (fun a hF => ?_)
        refine vc_nil ?_
        exact ⟨i + 1, by omega, by omega, all_take hat hall (case_yes hw), hww, hF.keep [18, 0, 17] rfl, hA1⟩
      · refine vc_trueB hF rfl hw ?_
        apply wp_seq_k; intro K12 hK12
        refine wp_region_lit ?_
        refine vc_y hF rfl rfl (by decide) _ (y_assign rfl rfl) (fun a hF => ?_)
        refine vc_nil ?_
        refine hK12 _ _ ?_; clear  hK12 K12
        apply wp_ret
        simp only [Exit.then, Exit.inBlock]
        refine vc_ret1 hF Tryz.results136 rfl ?_
        exact ⟨by rw [case_bad hlt hw], hww⟩
    · refine vc_falseB hF rfl (lss_f (by omega)) ?_
      obtain rfl : i = s.length := by omega
      apply wp_exit
      refine hK4 _ _ ?_; clear hK7 K7 hK4 K4
      apply wp_seq_k; intro K13 hK13
      refine wp_region_lit ?_
      refine vc_y hF rfl rfl (by decide) _ (y_assign rfl rfl) (fun a hF => ?_)
      refine vc_nil ?_
      refine hK13 _ _ ?_; clear  hK13 K13
      apply wp_ret
      refine vc_ret1 hF Tryz.results136 rfl ?_
      exact ⟨by rw [case_good hh hall], hww⟩
  · refine vc_trueB hF rfl hs ?_
    apply wp_seq_k; intro K14 hK14
    refine wp_region_lit ?_
    refine vc_y hF rfl rfl (by decide) _ (y_assign rfl rfl) (fun a hF => ?_)
    refine vc_nil ?_
    refine hK14 _ _ ?_; clear  hK14 K14
    apply wp_ret
    simp only [Exit.then]
    refine vc_ret1 hF Tryz.results136 rfl ?_
    exact ⟨by rw [case_none hs], rfl⟩
end Go.Proofs.YtepbmdlgdaedpaaGreatDoor
