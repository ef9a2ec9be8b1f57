/- The walks of turned, Must. -/
import Derived.Test.YtppmhlkonemebaaDoorBook
import Derived.Laws.BitsAllLaws
namespace Go.Proofs.YtppmhlkonemebaaDoor
open Go.RowKit Go.Dk

theorem mu_zero36 : zeroIs Tryd.prog 36 (.agg (dc (List.replicate 32 0)).toArray) := by unfold zeroIs; kernel_rfl
theorem mu_row36 : isRow Tryd.prog 36 32 = true := by kernel_rfl
theorem mu_size36 : (Tryd.prog.info? 36).map (·.size) = some 32 := by kernel_rfl

/-- every bit of a byte turned -/
def flip (b : UInt8) : UInt8 := b ^^^ 255
theorem turn_set (X : List UInt8) (R : List Value) (i : Nat) (hi : i < X.length) :
    (dc ((X.map flip).take i ++ X.drop i) ++ R).set i (.int .u8 ((flip (bAt X i)).toNat : Int)) = dc ((X.map flip).take (i + 1) ++ X.drop (i + 1)) ++ R := by
  have h1 : (X.map flip)[i]? = some (flip (bAt X i)) := by simp [bAt, hi]
  have h2 : X.drop i = bAt X i :: X.drop (i + 1) := by rw [List.drop_eq_getElem_cons hi]; congr 1; simp [bAt, hi]
  rw [List.set_append, if_pos (by rw [dc_length, List.length_append, List.length_take, List.length_map, List.length_drop]; omega), dc_append, List.set_append, if_neg (by rw [dc_length, List.length_take, List.length_map]; omega)]
  rw [dc_length, List.length_take, List.length_map, show i - min i X.length = 0 by omega, h2, List.take_add_one, h1]
  generalize X.drop (i + 1) = D
  generalize (X.map flip).take i = T0
  simp [dc]
theorem xor_flip (b : UInt8) : bits .xor .u8 ((b.toNat : Nat) : Int) 255 = ((flip b).toNat : Int) := by
  rw [show (255 : Int) = ((255 : Nat) : Int) from rfl, u8_xor_nat _ _ b.toNat_lt (by decide)]
  rfl
theorem turn_get (X : List UInt8) (R : List Value) (i : Nat) (hi : i < X.length) : (dc ((X.map flip).take i ++ X.drop i) ++ R)[i]? = some (.int .u8 ((bAt X i).toNat : Int)) := by
  have hl : ((X.map flip).take i ++ X.drop i).length = X.length := by rw [List.length_append, List.length_take, List.length_map, List.length_drop]; omega
  rw [List.getElem?_append_left (by rw [dc_length, hl]; exact hi), dc_at (by rw [hl]; exact hi)]
  congr 3
  unfold bAt
  rw [List.getElem?_append_right (by rw [List.length_take, List.length_map]; omega), List.length_take, List.length_map, show i - min i X.length = 0 by omega, List.getElem?_drop, Nat.add_zero]

end Go.Proofs.YtppmhlkonemebaaDoor
