/- The walk of DigestNames. -/
import Derived.Test.YtppmhlkonemebaaDoorLit
namespace Go.Proofs.YtppmhlkonemebaaDoor
open Go.RowKit Go.Dk

theorem in_some {w : World} {g o : Nat} (h : g < w.heap.size) : In w (some ⟨g, o, none⟩) := fun ad he => by cases he; exact h
@[irreducible] def lit0 : List UInt8 := [116, 104, 101, 32, 116, 104, 105, 114, 100, 32, 99, 97, 115, 101, 32, 111, 102, 32, 116, 104, 101, 32, 100, 111, 99, 107, 101, 116]
theorem len0 : 28 = lit0.length := by kernel_rfl
theorem lt0 : lit0.length < 140737488355328 := by rw [← len0]; decide
@[irreducible] def lit1 : List UInt8 := [97, 32, 100, 111, 99, 107, 101, 116, 32, 105, 115, 32, 114, 101, 97, 100, 32, 102, 114, 111, 109, 32, 105, 116, 115, 32, 102, 105, 114, 115, 116, 32, 101, 118, 101, 110, 116, 32, 116, 111, 32, 105, 116, 115, 32, 108, 97, 115, 116, 44, 32, 116, 119, 105, 99, 101]
theorem len1 : 56 = lit1.length := by kernel_rfl
theorem lt1 : lit1.length < 140737488355328 := by rw [← len1]; decide
@[irreducible] def lit2 : List UInt8 := [99, 108, 101, 114, 107]
theorem len2 : 5 = lit2.length := by kernel_rfl
theorem lt2 : lit2.length < 140737488355328 := by rw [← len2]; decide
@[irreducible] def lit3 : List UInt8 := [104, 101, 97, 100, 32, 49, 50]
theorem len3 : 7 = lit3.length := by kernel_rfl
theorem lt3 : lit3.length < 140737488355328 := by rw [← len3]; decide
@[irreducible] def lit4 : List UInt8 := [99, 97, 115, 101]
theorem len4 : 4 = lit4.length := by kernel_rfl
theorem lt4 : lit4.length < 140737488355328 := by rw [← len4]; decide
abbrev hx0 : ByteArray := { data := #[52, 52, 57, 52, 55, 48, 53, 55, 54, 50, 55, 53, 51, 48, 49, 55, 49, 48, 100, 101, 97, 53, 49, 54, 54, 50, 100, 98, 56, 55, 99, 98, 50, 101, 52, 51, 51, 51, 100, 50, 57, 100, 102, 97, 50, 51, 101, 48, 98, 55, 48, 101, 98, 51, 55, 55, 49, 57, 56, 98, 52, 102, 53, 98] }
abbrev hx1 : ByteArray := { data := #[50, 102, 98, 50, 53, 97, 98, 101, 97, 97, 55, 57, 48, 53, 57, 99, 54, 97, 56, 55, 100, 49, 55, 56, 51, 98, 48, 100, 55, 97, 98, 99, 99, 102, 102, 101, 101, 49, 51, 57, 54, 49, 100, 53, 99, 57, 101, 50, 52, 53, 53, 99, 99, 99, 52, 51, 102, 56, 56, 50, 53, 50, 55, 57] }
abbrev hx2 : ByteArray := { data := #[100, 99, 99, 53, 97, 55, 97, 56, 53, 55, 53, 52, 97, 57, 101, 49, 56, 51, 55, 98, 48, 99, 98, 48, 56, 55, 101, 55, 97, 51, 48, 55, 101, 98, 48, 100, 53, 48, 99, 100, 51, 101, 55, 57, 102, 52, 53, 100, 48, 53, 50, 55, 100, 48, 56, 57, 49, 56, 99, 48, 97, 54, 102, 57] }
abbrev hx3 : ByteArray := { data := #[56, 57, 51, 56, 53, 100, 102, 55, 97, 49, 97, 97, 53, 99, 55, 49, 56, 55, 53, 49, 51, 98, 102, 52, 50, 100, 99, 98, 102, 57, 54, 97, 100, 52, 49, 51, 55, 48, 55, 55, 102, 100, 99, 50, 49, 48, 50, 100, 57, 102, 50, 99, 51, 53, 52, 56, 57, 98, 56, 51, 55, 52, 56, 54] }
abbrev hx4 : ByteArray := { data := #[101, 55, 55, 98, 57, 97, 57, 97, 101, 57, 101, 51, 48, 98, 48, 100, 98, 100, 98, 54, 102, 53, 49, 48, 97, 50, 54, 52, 101, 102, 57, 100, 101, 55, 56, 49, 53, 48, 49, 100, 55, 98, 54, 98, 57, 50, 97, 101, 56, 57, 101, 98, 48, 53, 57, 99, 53, 97, 98, 55, 52, 51, 100, 98] }
abbrev hx5 : ByteArray := { data := #[54, 53, 51, 55, 49, 51, 48, 56, 55, 57, 102, 56, 49, 50, 57, 99, 101, 98, 55, 99, 101, 56, 101, 100, 56, 52, 51, 51, 57, 52, 97, 49, 50, 100, 54, 53, 53, 50, 50, 48, 57, 101, 51, 49, 52, 101, 50, 54, 49, 48, 48, 54, 50, 48, 50, 102, 52, 56, 48, 57, 56, 53, 48, 52] }
theorem hx0_eq : sha lit0 = writtenL hx0 := by decide +kernel
theorem hx1_eq : sha lit1 = writtenL hx1 := by decide +kernel
theorem hx2_eq : macL lit2 lit3 = writtenL hx2 := by decide +kernel
theorem hx3_eq : leafL 32 lit4 = writtenL hx3 := by decide +kernel
theorem hx4_eq : emptyL 32 0 = writtenL hx4 := by decide +kernel
theorem hx5_eq : emptyL 32 1 = writtenL hx5 := by decide +kernel

set_option maxRecDepth 100000 in
set_option maxHeartbeats 2000000 in
theorem law_names (w : World) (hT : Tab w) : Calls Tryd.prog 8 #[] w fun e w' => e = .returned (.bool true) ∧ At w [] w' := by
  obtain ⟨S0, HS0⟩ : ∃ S, Hid (S = sha lit0) := ⟨_, rfl⟩
  have HW0 : Hid (writtenL hx0 = S0) := Lib.hid (by rw [HS0.out, hx0_eq])
  have HL0 : Hid (S0.length = 32) := Lib.hid (by rw [← HW0.out, writtenL_length])
  obtain ⟨S1, HS1⟩ : ∃ S, Hid (S = sha lit1) := ⟨_, rfl⟩
  have HW1 : Hid (writtenL hx1 = S1) := Lib.hid (by rw [HS1.out, hx1_eq])
  have HL1 : Hid (S1.length = 32) := Lib.hid (by rw [← HW1.out, writtenL_length])
  obtain ⟨S2, HS2⟩ : ∃ S, Hid (S = macL lit2 lit3) := ⟨_, rfl⟩
  have HW2 : Hid (writtenL hx2 = S2) := Lib.hid (by rw [HS2.out, hx2_eq])
  have HL2 : Hid (S2.length = 32) := Lib.hid (by rw [← HW2.out, writtenL_length])
  obtain ⟨S3, HS3⟩ : ∃ S, Hid (S = leafL 32 lit4) := ⟨_, rfl⟩
  have HW3 : Hid (writtenL hx3 = S3) := Lib.hid (by rw [HS3.out, hx3_eq])
  have HL3 : Hid (S3.length = 32) := Lib.hid (by rw [← HW3.out, writtenL_length])
  obtain ⟨S4, HS4⟩ : ∃ S, Hid (S = emptyL 32 0) := ⟨_, rfl⟩
  have HW4 : Hid (writtenL hx4 = S4) := Lib.hid (by rw [HS4.out, hx4_eq])
  have HL4 : Hid (S4.length = 32) := Lib.hid (by rw [← HW4.out, writtenL_length])
  obtain ⟨S5, HS5⟩ : ∃ S, Hid (S = emptyL 32 1) := ⟨_, rfl⟩
  have HW5 : Hid (writtenL hx5 = S5) := Lib.hid (by rw [HS5.out, hx5_eq])
  have HL5 : Hid (S5.length = 32) := Lib.hid (by rw [← HW5.out, writtenL_length])
  have hA0 := At.refl w
  go_enter Tryd.func8, Tryd.ntmps8
  go_wp2_with (first
    | (with_reducible refine at_buildSlice rfl ?_
       refine wpList_want rfl (fun _ hK => wp_bytes (n := 28) rfl Tryd.underlying24 bk_byte5 lit0 len0 (by decide) (by decide) (by kernel_rfl) (hK _ _ ?_)); clear hK)
    | (with_reducible refine at_convert rfl ?_
       with_reducible refine at_on lit0 w rfl ?_
       refine wpList_want rfl (fun _ hK => wp_mark (l := lit0) rfl (At.refl w) Tryd.underlying24 Tryd.underlying5 rfl (fun g0 w1 hg0 hc1 hB0 hI0 => hK _ _ ?_)); clear hK
       have hA1 := hA0.then0 hc1)
    | (go_at_call 21
       with_reducible refine (digest_any w1 (some ⟨g0, 0, none⟩) lit0 28 28 len0 (Nat.le_refl _) hB0 (in_some hI0) lt0 (hT.at_ hA1 (by simp))).mono ?_
       rintro e' w2 ⟨rfl, hc2⟩
       have hA2 := hA1.then0 hc2
       rw [← HS0.out])
    | (go_at_call 16
       with_reducible refine (written_any w2 hx0 rfl).mono ?_
       rintro e' w3 ⟨rfl, hc3⟩
       have hA3 := hA2.then0 hc3
       rw [HW0.out])
    | (with_reducible refine at_binop (b := .neq) rfl ?_
       refine wpList_want rfl (fun _ hK => wp_val (v := .bool false) ((run_op_neq_bytes rfl 5 32 S0 S0 rfl rfl Tryd.underlying36 Tryd.underlying5 bk_size5 HL0.out HL0.out (by kernel_rfl)).trans (by simp)) (hK _ _ ?_)); clear hK)
    | (with_reducible refine at_buildSlice rfl ?_
       refine wpList_want rfl (fun _ hK => wp_bytes (n := 56) rfl Tryd.underlying24 bk_byte5 lit1 len1 (by decide) (by decide) (by kernel_rfl) (hK _ _ ?_)); clear hK)
    | (with_reducible refine at_convert rfl ?_
       with_reducible refine at_on lit1 w3 rfl ?_
       refine wpList_want rfl (fun _ hK => wp_mark (l := lit1) rfl (At.refl w3) Tryd.underlying24 Tryd.underlying5 rfl (fun g1 w4 hg1 hc4 hB1 hI1 => hK _ _ ?_)); clear hK
       have hA4 := hA3.then0 hc4)
    | (go_at_call 21
       with_reducible refine (digest_any w4 (some ⟨g1, 0, none⟩) lit1 56 56 len1 (Nat.le_refl _) hB1 (in_some hI1) lt1 (hT.at_ hA4 (by simp))).mono ?_
       rintro e' w5 ⟨rfl, hc5⟩
       have hA5 := hA4.then0 hc5
       rw [← HS1.out])
    | (go_at_call 16
       with_reducible refine (written_any w5 hx1 rfl).mono ?_
       rintro e' w6 ⟨rfl, hc6⟩
       have hA6 := hA5.then0 hc6
       rw [HW1.out])
    | (with_reducible refine at_binop (b := .neq) rfl ?_
       refine wpList_want rfl (fun _ hK => wp_val (v := .bool false) ((run_op_neq_bytes rfl 5 32 S1 S1 rfl rfl Tryd.underlying36 Tryd.underlying5 bk_size5 HL1.out HL1.out (by kernel_rfl)).trans (by simp)) (hK _ _ ?_)); clear hK)
    | (with_reducible refine at_buildSlice rfl ?_
       refine wpList_want rfl (fun _ hK => wp_bytes (n := 5) rfl Tryd.underlying24 bk_byte5 lit2 len2 (by decide) (by decide) (by kernel_rfl) (hK _ _ ?_)); clear hK)
    | (with_reducible refine at_convert rfl ?_
       with_reducible refine at_on lit2 w6 rfl ?_
       refine wpList_want rfl (fun _ hK => wp_mark (l := lit2) rfl (At.refl w6) Tryd.underlying24 Tryd.underlying5 rfl (fun g2 w7 hg2 hc7 hB2 hI2 => hK _ _ ?_)); clear hK
       have hA7 := hA6.then0 hc7)
    | (with_reducible refine at_buildSlice rfl ?_
       refine wpList_want rfl (fun _ hK => wp_bytes (n := 7) rfl Tryd.underlying24 bk_byte5 lit3 len3 (by decide) (by decide) (by kernel_rfl) (hK _ _ ?_)); clear hK)
    | (with_reducible refine at_convert rfl ?_
       with_reducible refine at_on lit3 w7 rfl ?_
       refine wpList_want rfl (fun _ hK => wp_mark (l := lit3) rfl (At.refl w7) Tryd.underlying24 Tryd.underlying5 rfl (fun g3 w8 hg3 hc8 hB3 hI3 => hK _ _ ?_)); clear hK
       have hA8 := hA7.then0 hc8)
    | (go_at_call 25
       with_reducible refine (mac_short w8 (some ⟨g2, 0, none⟩) (some ⟨g3, 0, none⟩) lit2 lit3 5 7 5 7 len2 len3 (by decide) (Nat.le_refl _) (hB2.then0 hc8) hB3 (in_some hI3) lt3 (hT.at_ hA8 (by simp))).mono ?_
       rintro e' w9 ⟨rfl, hc9⟩
       have hA9 := hA8.then0 hc9
       rw [← HS2.out])
    | (go_at_call 16
       with_reducible refine (written_any w9 hx2 rfl).mono ?_
       rintro e' w10 ⟨rfl, hc10⟩
       have hA10 := hA9.then0 hc10
       rw [HW2.out])
    | (with_reducible refine at_binop (b := .neq) rfl ?_
       refine wpList_want rfl (fun _ hK => wp_val (v := .bool false) ((run_op_neq_bytes rfl 5 32 S2 S2 rfl rfl Tryd.underlying36 Tryd.underlying5 bk_size5 HL2.out HL2.out (by kernel_rfl)).trans (by simp)) (hK _ _ ?_)); clear hK)
    | (with_reducible refine at_buildSlice rfl ?_
       refine wpList_want rfl (fun _ hK => wp_bytes (n := 4) rfl Tryd.underlying24 bk_byte5 lit4 len4 (by decide) (by decide) (by kernel_rfl) (hK _ _ ?_)); clear hK)
    | (with_reducible refine at_convert rfl ?_
       with_reducible refine at_on lit4 w10 rfl ?_
       refine wpList_want rfl (fun _ hK => wp_mark (l := lit4) rfl (At.refl w10) Tryd.underlying24 Tryd.underlying5 rfl (fun g4 w11 hg4 hc11 hB4 hI4 => hK _ _ ?_)); clear hK
       have hA11 := hA10.then0 hc11)
    | (go_at_call 33
       with_reducible refine (leaf_any w11 32 (some ⟨g4, 0, none⟩) lit4 4 4 len4 (Nat.le_refl _) hB4 (in_some hI4) lt4 (hT.at_ hA11 (by simp))).mono ?_
       rintro e' w12 ⟨rfl, hc12⟩
       have hA12 := hA11.then0 hc12
       rw [← HS3.out])
    | (go_at_call 16
       with_reducible refine (written_any w12 hx3 rfl).mono ?_
       rintro e' w13 ⟨rfl, hc13⟩
       have hA13 := hA12.then0 hc13
       rw [HW3.out])
    | (with_reducible refine at_binop (b := .neq) rfl ?_
       refine wpList_want rfl (fun _ hK => wp_val (v := .bool false) ((run_op_neq_bytes rfl 5 32 S3 S3 rfl rfl Tryd.underlying36 Tryd.underlying5 bk_size5 HL3.out HL3.out (by kernel_rfl)).trans (by simp)) (hK _ _ ?_)); clear hK)
    | (go_at_call 34
       with_reducible refine (empty_any w13 32 0 0 rfl (by decide) (hT.at_ hA13 (by simp))).mono ?_
       rintro e' w14 ⟨rfl, hc14⟩
       have hA14 := hA13.then0 hc14
       rw [← HS4.out])
    | (go_at_call 16
       with_reducible refine (written_any w14 hx4 rfl).mono ?_
       rintro e' w15 ⟨rfl, hc15⟩
       have hA15 := hA14.then0 hc15
       rw [HW4.out])
    | (with_reducible refine at_binop (b := .eql) rfl ?_
       refine wpList_want rfl (fun _ hK => wp_val (v := .bool true) ((run_op_eql_bytes rfl 5 32 S4 S4 rfl rfl Tryd.underlying36 Tryd.underlying5 bk_size5 HL4.out HL4.out (by kernel_rfl)).trans (by simp)) (hK _ _ ?_)); clear hK)
    | (go_at_call 34
       with_reducible refine (empty_any w15 32 1 1 rfl (by decide) (hT.at_ hA15 (by simp))).mono ?_
       rintro e' w16 ⟨rfl, hc16⟩
       have hA16 := hA15.then0 hc16
       rw [← HS5.out])
    | (go_at_call 16
       with_reducible refine (written_any w16 hx5 rfl).mono ?_
       rintro e' w17 ⟨rfl, hc17⟩
       have hA17 := hA16.then0 hc17
       rw [HW5.out])
    | (with_reducible refine at_binop (b := .eql) rfl ?_
       refine wpList_want rfl (fun _ hK => wp_val (v := .bool true) ((run_op_eql_bytes rfl 5 32 S5 S5 rfl rfl Tryd.underlying36 Tryd.underlying5 bk_size5 HL5.out HL5.out (by kernel_rfl)).trans (by simp)) (hK _ _ ?_)); clear hK))
  go_ret
  exact ⟨rfl, hA17⟩
end Go.Proofs.YtppmhlkonemebaaDoor
