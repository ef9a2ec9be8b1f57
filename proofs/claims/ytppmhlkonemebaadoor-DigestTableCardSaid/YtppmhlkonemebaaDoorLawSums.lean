/- The walk of DigestSums. -/
import Derived.Test.YtppmhlkonemebaaDoorRefSum
import Derived.Test.YtppmhlkonemebaaDoorVs
import Derived.Test.YtppmhlkonemebaaDoorLawNames
namespace Go.Proofs.YtppmhlkonemebaaDoor
open Go.RowKit Go.Dk

theorem elem5 : elemInfo Tryd.prog 5 1 1 := elemInfo_byte bk_byte5
/-- the first i bytes turned -/
def mix (l : List UInt8) (i : Nat) : List UInt8 := (l.map flip).take i ++ l.drop i
theorem mix_length (l : List UInt8) (i : Nat) (h : i ≤ l.length) : (mix l i).length = l.length := by unfold mix; rw [List.length_append, List.length_take, List.length_map, List.length_drop]; omega
theorem mix_end (l : List UInt8) : mix l l.length = l.map flip := by unfold mix; rw [List.drop_length, List.append_nil, List.take_of_length_le (by simp)]
theorem mix_set (l : List UInt8) (R : List Value) (i : Nat) (hi : i < l.length) : (dc (mix l i) ++ R).set i (.int .u8 ((flip (bAt l i)).toNat : Int)) = dc (mix l (i + 1)) ++ R := turn_set l R i hi
theorem mix_get (l : List UInt8) (R : List Value) (i : Nat) (hi : i < l.length) : (dc (mix l i) ++ R)[i]? = some (.int .u8 ((bAt l i).toNat : Int)) := turn_get l R i hi
theorem bts_front {w0 w : World} {L : List Row} {k g : Nat} {t : TypeId} {l : List UInt8} {R : List Value} (hA : At w0 L w) (hk : L[k]? = some (g, t, dc l ++ R)) : Bts w (some ⟨g, 0, none⟩) l :=
  Bts.row hA hk (by rw [List.drop_zero, List.take_append_of_le_length (by rw [dc_length]; exact Nat.le_refl _), List.take_of_length_le (by rw [dc_length]; exact Nat.le_refl _)])
theorem flip_len (l : List UInt8) : (l.map flip).length = l.length := by simp
end Go.Proofs.YtppmhlkonemebaaDoor
