/- sum and unlike of the law DigestApart. -/
import Derived.Test.YtpomngkcfbnjoaaDoorTab4
namespace Go.Proofs.YtpomngkcfbnjoaaDoor
open Go.RowKit Go.Dk

def bval (l : List UInt8) : Nat := l.foldl (fun n c => n * 256 + c.toNat) 0
theorem be_succ (K n : Nat) : be (K + 1) n = be K (n / 256) ++ [UInt8.ofNat n] := by
  unfold be
  rw [List.range_succ, List.map_append]
  congr 1
  · apply List.map_congr_left
    intro j hj
    have hj' := List.mem_range.1 hj
    rw [show K + 1 - 1 - j = (K - 1 - j) + 1 by omega, Nat.pow_succ, Nat.mul_comm, Nat.div_div_eq_div_mul]
  · simp
theorem bval_be : ∀ K n, bval (be K n) = n % 256 ^ K
  | 0, n => by simp [be, bval, Nat.mod_one]
  | K + 1, n => by
    have h := bval_be K (n / 256)
    rw [be_succ, bval, List.foldl_append]
    show bval (be K (n / 256)) * 256 + (UInt8.ofNat n).toNat = _
    rw [h, UInt8.toNat_ofNat', show 256 ^ (K + 1) = 256 * 256 ^ K by rw [Nat.pow_succ, Nat.mul_comm], Nat.mod_mul]
    omega
theorem be8_inj {C D : Int} (hC : -9223372036854775808 ≤ C ∧ C ≤ 9223372036854775807) (hD : -9223372036854775808 ≤ D ∧ D ≤ 9223372036854775807) (h : be 8 (c64 C) = be 8 (c64 D)) : C = D := by
  have h1 := congrArg bval h
  rw [bval_be, bval_be, Nat.mod_eq_of_lt (c64_lt C), Nat.mod_eq_of_lt (c64_lt D)] at h1
  unfold c64 at h1
  omega
theorem be8_len (n : Nat) : (be 8 n).length = 8 := by simp [be]
section
variable {c c' : Int} {X X' Y Y' p p' : List UInt8}
theorem tx_three (hX : X.length = 32) (hX' : X'.length = 32) (hC : -9223372036854775808 ≤ c ∧ c ≤ 9223372036854775807) (hC' : -9223372036854775808 ≤ c' ∧ c' ≤ 9223372036854775807) (b : UInt8) : (b :: (X ++ be 8 (c64 c) ++ Y) = b :: (X' ++ be 8 (c64 c') ++ Y')) ↔ X = X' ∧ Y = Y' ∧ c = c' := by
  constructor
  · intro h
    injection h with _ h
    rw [List.append_assoc, List.append_assoc] at h
    obtain ⟨h1, h2⟩ := List.append_inj h (by omega)
    obtain ⟨h3, h4⟩ := List.append_inj h2 (by rw [be8_len, be8_len])
    exact ⟨h1, h4, be8_inj hC hC' h3⟩
  · rintro ⟨rfl, rfl, rfl⟩; rfl
end
end Go.Proofs.YtpomngkcfbnjoaaDoor
