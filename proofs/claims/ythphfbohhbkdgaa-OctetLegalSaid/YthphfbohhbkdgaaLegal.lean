/- OctetLegal: for every string and bound the law 'OctetLegal' returns true. No condition. -/
import Derived.Test.YthphfbohhbkdgaaRows
import Derived.WalkKit
import Derived.ProofKit
import Derived.OpenShut
import Derived.ShutString
import Derived.Lib.Hide
namespace Go.Proofs.Ythphfbohhbkdgaa.octetLegal
open Go.ChangeShapes Go.WideShapes Go.ChangeAt Go.RowKit
open Go.ChangeMaps (open_string shut_string)
set_option linter.unusedVariables false

theorem own : ownKnob Try.prog.godebug = none := by kernel_rfl

/-- a letter of a case's name -/
def okc (n : Nat) : Bool := decide (97 ≤ n ∧ n ≤ 122) || decide (48 ≤ n ∧ n ≤ 57) || decide (n = 45)
def allTo (s : ByteArray) (k : Nat) : Prop := ∀ j (h : j < s.size), j < k → okc s[j].toNat = true
def legal (s : ByteArray) (most : Int) : Prop := 1 ≤ s.size ∧ (s.size : Int) ≤ most ∧ allTo s s.size

theorem ret_bool {a b : Bool} (h : a = b) : Ending.returned (.bool a) = .returned (.bool b) := by rw [h]

theorem allTo_succ (s : ByteArray) (k : Nat) (hk : k < s.size) (h : allTo s k) (hc : okc s[k].toNat = true) : allTo s (k + 1) := by
  intro j hj hjk
  by_cases e : j = k
  · subst e; exact hc
  · exact h j hj (by omega)
theorem okc_no (n : Nat) (h : okc n = false) : ¬ (97 ≤ n ∧ n ≤ 122) ∧ ¬ (48 ≤ n ∧ n ≤ 57) ∧ ¬ n = 45 := by
  simp only [okc, Bool.or_eq_false_iff, decide_eq_false_iff_not] at h
  exact ⟨h.1.1, h.1.2, h.2⟩
theorem okc_yes (n : Nat) (h : okc n = true) : (97 ≤ n ∧ n ≤ 122) ∨ (48 ≤ n ∧ n ≤ 57) ∨ n = 45 := by
  simp only [okc, Bool.or_eq_true, decide_eq_true_eq] at h
  rcases h with (h | h) | h
  · exact .inl h
  · exact .inr (.inl h)
  · exact .inr (.inr h)

def LegalIs (s : ByteArray) (m : Int) (w : World) (e : Ending) (w' : World) : Prop := ∃ b, e = .returned (.bool b) ∧ (b = true ↔ legal s m) ∧ w = w'
theorem legalIs_no {s : ByteArray} {m : Int} {w : World} (h : ¬ legal s m) : LegalIs s m w (.returned (.bool false)) w := ⟨false, rfl, by simp [h], rfl⟩
theorem legalIs_yes {s : ByteArray} {m : Int} {w : World} (h : legal s m) : LegalIs s m w (.returned (.bool true)) w := ⟨true, rfl, by simp [h], rfl⟩
theorem not_legal_at {s : ByteArray} {m : Int} {k : Nat} (hk : k < s.size) (h : okc s[k].toNat = false) : ¬ legal s m := fun hl => by
  have := hl.2.2 k hk hk
  rw [h] at this; cases this
theorem class_of (n : Nat) : n < 45 ∨ n = 45 ∨ (45 < n ∧ n < 48) ∨ (48 ≤ n ∧ n ≤ 57) ∨ (57 < n ∧ n < 97) ∨ (97 ≤ n ∧ n ≤ 122) ∨ 122 < n := by omega
theorem okc_1 (n : Nat) (h : 97 ≤ n) (h2 : n ≤ 122) : okc n = true := by simp [okc]; omega
theorem okc_2 (n : Nat) (h : 48 ≤ n) (h2 : n ≤ 57) : okc n = true := by simp [okc]; omega
theorem okc_3 (n : Nat) (h : n < 48) (h2 : n ≠ 45) : okc n = false := by simp [okc]; omega
theorem okc_4 (n : Nat) (h : 57 < n) (h2 : n < 97) : okc n = false := by simp [okc]; omega
theorem okc_5 (n : Nat) (h : 122 < n) : okc n = false := by simp [okc]; omega
theorem okc_6 (n : Nat) (h : n = 45) : okc n = true := by simp [okc]; omega

set_option maxHeartbeats 2000000 in
theorem prog_legal (s : ByteArray) (m : Int) (w : World) (hs : s.size ≤ maxLen) :
    Calls Try.prog 10 #[.string s, .int .i64 m] w (LegalIs s m w) := by
  unfold maxLen at hs
  by_cases h0 : s.size = 0
  · have e0 : ((s.size : Int) == 0) = true := by simp [h0]
    have hno : ¬ legal s m := fun h => by have := h.1; omega
    have H0 := Lib.hid h0; clear h0
    go_enter Try.func10, Try.ntmps10
    go_wp2
    go_ret
    exact legalIs_no hno
  · have e0 : ((s.size : Int) == 0) = false := beq_eq_false_iff_ne.2 (by omega)
    by_cases h1 : m < s.size
    · have hno : ¬ legal s m := fun h => absurd h1 (Int.not_lt.2 h.2.1)
      go_enter Try.func10, Try.ntmps10
      go_wp2
      go_ret
      exact legalIs_no hno
    · have h1' : decide (m < (s.size : Int)) = false := by simpa using h1
      have h2 : (s.size : Int) ≤ m := by omega
      have h3 : 1 ≤ s.size := by omega
      clear h0 h1
      go_enter Try.func10, Try.ntmps10
      go_wp2
      go_loop [18] (fun i => ∃ k : Nat, k ≤ s.size ∧ i = .int .i64 k ∧ allTo s k) (fun i => s.size - (intOf i).toNat)
      case atStart => exact ⟨0, Nat.zero_le _, rfl, fun j hj h => absurd h (Nat.not_lt_zero j)⟩
      case round =>
        obtain ⟨k, hk, rfl, hall⟩ := hrel
        by_cases hlt : k < s.size
        · have hy : okc s[k].toNat = true → allTo s (k + 1) := allTo_succ s k hlt hall
          have hn : okc s[k].toNat = false → ¬ legal s m := not_legal_at hlt
          have Hy := Lib.hid hy; clear hy
          have Hn := Lib.hid hn; clear hn
          have Hall := Lib.hid hall; clear hall
          go_wp2
          all_goals try simp only [bne_iff_ne, ne_eq, bne_eq_false_iff_eq] at *
          all_goals first
            | (have hc : okc s[k].toNat = false := by
                 simp only [okc, Bool.or_eq_false_iff, decide_eq_false_iff_not]; omega
               go_ret
               exact legalIs_no (Hn.out hc))
            | (have hc : okc s[k].toNat = true := by
                 simp only [okc, Bool.or_eq_true, decide_eq_true_eq]; omega
               go_round
               case rel => exact ⟨k + 1, by omega, by go_num, Hy.out hc⟩
               case measure => simp [intOf]; omega)
        · have : k = s.size := by omega
          subst this
          go_wp2
          go_ret
          exact legalIs_yes ⟨h3, h2, hall⟩

set_option maxHeartbeats 2000000 in
theorem ref_legal (s : ByteArray) (m : Int) (w : World) (hs : s.size ≤ maxLen) :
    Calls Try.prog 11 #[.string s, .int .i64 m] w (LegalIs s m w) := by
  unfold maxLen at hs
  go_enter Try.func11, Try.ntmps11
  go_wp2
  go_loop [5] (fun i => ∃ k : Nat, k ≤ s.size ∧ i = .int .i64 k ∧ allTo s k) (fun i => s.size - (intOf i).toNat)
  case atStart => exact ⟨0, Nat.zero_le _, rfl, fun j hj h => absurd h (Nat.not_lt_zero j)⟩
  case round =>
    obtain ⟨k, hk, rfl, hall⟩ := hrel
    by_cases hlt : k < s.size
    · have hy : okc s[k].toNat = true → allTo s (k + 1) := allTo_succ s k hlt hall
      have hn : okc s[k].toNat = false → ¬ legal s m := not_legal_at hlt
      have Hy := Lib.hid hy; clear hy
      have Hn := Lib.hid hn; clear hn
      have Hall := Lib.hid hall; clear hall
      go_wp2
      all_goals try simp only [Bool.not_eq_true', Bool.not_eq_false', decide_eq_true_eq, decide_eq_false_iff_not, beq_iff_eq, beq_eq_false_iff_ne] at *
      all_goals first
        | (have hc : okc s[k].toNat = false := by
             simp only [okc, Bool.or_eq_false_iff, decide_eq_false_iff_not]; omega
           go_ret
           exact legalIs_no (Hn.out hc))
        | (have hc : okc s[k].toNat = true := by
             simp only [okc, Bool.or_eq_true, decide_eq_true_eq]; omega
           go_round
           case rel => exact ⟨k + 1, by omega, by go_num, Hy.out hc⟩
           case measure => simp [intOf]; omega)
    · have : k = s.size := by omega
      subst this
      by_cases h1 : 1 ≤ s.size
      · by_cases h2 : (s.size : Int) ≤ m
        · go_wp2
          go_ret
          exact legalIs_yes ⟨h1, h2, hall⟩
        · have hno : ¬ legal s m := fun h => h2 h.2.1
          go_wp2
          go_ret
          exact legalIs_no hno
      · have hno : ¬ legal s m := fun h => h1 h.1
        have e1 : decide (1 ≤ (s.size : Int)) = false := by simp; omega
        go_wp2
        go_ret
        exact legalIs_no hno

theorem legal_c7 : legal { data := #[99, 45, 55] } 3 := by
  refine ⟨by decide, by decide, ?_⟩
  intro j hj hj2
  have h3 : j < 3 := hj
  match j, h3 with
  | 0, _ => rfl
  | 1, _ => rfl
  | 2, _ => rfl
theorem first_calls (w : World) : Calls Try.prog 10 #[.string { data := #[99, 45, 55] }, .int .i64 3] w fun e w' => e = .returned (.bool true) ∧ w = w' :=
  (prog_legal _ _ w (by decide)).mono fun e w' ⟨b, he, hb, hw⟩ => by
    have := hb.2 legal_c7
    subst this
    exact ⟨he, hw⟩
theorem both_calls (s : ByteArray) (m : Int) (hs : s.size ≤ maxLen) : ∃ b : Bool, (∀ w, Calls Try.prog 10 #[.string s, .int .i64 m] w fun e w' => e = .returned (.bool b) ∧ w = w') ∧
    (∀ w, Calls Try.prog 11 #[.string s, .int .i64 m] w fun e w' => e = .returned (.bool b) ∧ w = w') := by
  by_cases hl : legal s m
  · exact ⟨true, fun w => (prog_legal s m w hs).mono fun e w' ⟨b, he, hb, hw⟩ => by
      obtain rfl := hb.2 hl
      exact ⟨he, hw⟩, fun w => (ref_legal s m w hs).mono fun e w' ⟨b, he, hb, hw⟩ => by
      obtain rfl := hb.2 hl
      exact ⟨he, hw⟩⟩
  · have no : ∀ b : Bool, (b = true ↔ legal s m) → b = false := fun b hb => by
      cases b
      · rfl
      · exact absurd (hb.1 rfl) hl
    exact ⟨false, fun w => (prog_legal s m w hs).mono fun e w' ⟨b, he, hb, hw⟩ => by
      obtain rfl := no b hb
      exact ⟨he, hw⟩, fun w => (ref_legal s m w hs).mono fun e w' ⟨b, he, hb, hw⟩ => by
      obtain rfl := no b hb
      exact ⟨he, hw⟩⟩
theorem walk (a0 : ByteArray) (a1 : Int) (w0 : a0.size ≤ maxLen) (w1 : (Lit.int .i64 a1).wf = true) (w : World) :
    Calls Try.prog 3 #[.string a0, .int .i64 a1] w fun e w' => e = .returned (.bool true) ∧ Grown w w' := by
  obtain ⟨b, h1, h2⟩ := both_calls a0 a1 w0
  have H1 := Lib.hid h1; clear h1
  have H2 := Lib.hid h2; clear h2
  go_enter Try.func3, Try.ntmps3
  go_wp2_with fail
  refine (first_calls _).mono ?_
  rintro e w' ⟨rfl, rfl⟩
  go_wp2_with fail
  refine (H1.out _).mono ?_
  rintro e w' ⟨rfl, rfl⟩
  go_wp2_with fail
  refine (H2.out _).mono ?_
  rintro e w' ⟨rfl, rfl⟩
  go_wp2_with fail
  go_ret
  exact ⟨ret_bool (by simp), Grown.refl _⟩
/-! ### THE ROW's STEP: WRITTEN OUT: LEAVE IT -/
set_option maxRecDepth 100000 in
theorem lifted (os : Os) (started : os.Started) (H : Type) (enc : TypeId × Value → H) :
    ReturnsInHanded {} Try.checked os 3 .any (Rows.octetLegalSpec.pre6 enc Try.prog Try.f3 Rows.octetLegalRow.domain false) (Rows.octetLegalSpec.post enc Try.prog Try.f3 false true false false) := by
  refine returnsInHanded_of_change (C := Try.checked) own started (by kernel_rfl) Try.func3
    (ChangeSpec.witness6 (enc := enc) (C := Try.checked) false ⟨#[], #[.string ByteArray.empty, .int .i64 0], []⟩ 8 (by kernel_rfl) (by kernel_rfl) (by kernel_rfl) (by kernel_rfl)) ?_
  intro W base args ds gs before hval0 hW hcnd _
  have hval : ∀ (j : Nat) t v, Try.f3.params[j]? = some t → args[j]? = some v → Value.okWide Try.prog W .any base t v := hval0
  have hW' := hW
  obtain ⟨p, q, hA0, hV, rfl, hfz, hnd⟩ := hW
  have hA : DataW.TrodAll enc Try.prog W 0 (fun _ => true) true Try.f3.params.toList args.toList ds p := hA0
  rw [Try.params3] at hA hval
  obtain ⟨v0, vs0, d0, ds0, p0, q0, hargs, rfl, rfl, h0, r0⟩ := trodAll_cons hA
  obtain ⟨v1, vs1, d1, ds1, p1, q1, rfl, rfl, rfl, h1, r1⟩ := trodAll_cons r0
  obtain ⟨rfl, rfl, rfl⟩ := trodAll_nil r1
  obtain rfl : args = #[v0, v1] := by cases args; simp_all
  obtain ⟨rfl, rfl⟩ := trodVars_none hV
  obtain ⟨a0, rfl, rfl, rfl, w0⟩ := open_string Try.underlying9 (hval 0 9 v0 rfl rfl) h0
  obtain ⟨a1, rfl, rfl, rfl, w1⟩ := open_int Try.underlying3 (hval 1 3 v1 rfl rfl) h1
  clear hA0 hval0
  simp only [List.append_nil] at hW'
  refine (walk a0 a1 w0 w1 W).mono fun e W' ⟨he, hg⟩ => ?_
  subst he
  exact ⟨_, rfl, post_of_same (pa := []) (pv := []) hW' (fun _ _ _ => (trodAll_cons_mk (shut_bool Try.underlying4 _) trodAll_mk0)) (fun sp _ => (trodAll_cons_mk (shut_string Try.underlying9 w0) (trodAll_cons_mk (shut_int Try.underlying3 w1) trodAll_mk0))) (fun _ _ => rfl) rfl
    (hg.frame _) hg.2.1 (ok_one (by kernel_rfl) rfl (okWide_bool_mk Try.underlying4 _))⟩

theorem over : Rows.octetLegalRow.holds Try.pinned (OpenSpec.ofChange Rows.octetLegalSpec) :=
  OpenClaim.holds_of_wide 3 Try.f3 rfl rfl rfl rfl rfl rfl rfl ⟨rfl, rfl, rfl, rfl, rfl⟩ rfl rfl rfl rfl rfl (by kernel_rfl) Try.func3 (by kernel_rfl)
    (of_decide_eq_true (by kernel_rfl)) (by unfold Func.isWrapper; first | (rw [if_pos (by decide +kernel)]; kernel_rfl) | (rw [if_neg (by decide +kernel)]; exact ⟨rfl, rfl⟩))
    (fun os started H enc _ => lifted os started H enc)

/-- ████ THE STATEMENT ████ -/
theorem proved : Rows.OctetLegalSaid :=
  over
end Go.Proofs.Ythphfbohhbkdgaa.octetLegal
