/- The table over segments. -/
import Derived.Test.YtpomngkcfbnjoaaDoorOctetW
import Derived.Test.YtpomngkcfbnjoaaDoorHr
import Derived.Test.YtpomngkcfbnjoaaDoorCs
import Derived.Test.YtpomngkcfbnjoaaDoorTab4
import Derived.Test.YtpomngkcfbnjoaaDoorTab8
import Derived.Test.YtpomngkcfbnjoaaDoorTab9
import Derived.Test.YtpomngkcfbnjoaaDoorHs
namespace Go.Proofs.YtpomngkcfbnjoaaDoor
open Go.RowKit Go.Dk
theorem tt_branch (w0 w : World) (R : List Seg) (width : Int) (X Y : List UInt8) (hX : X.length = 32) (hY : Y.length = 32) (hT : Tab w0) (hA : Hp w0 R w) : Calls Tryd.prog 96 #[.int .i64 width, .agg (dc X).toArray, .agg (dc Y).toArray] w fun e w' => e = .returned (.agg (dc (ofL width 4 (X ++ Y))).toArray) ∧ Hp w0 R w' := by
  refine (branch_all w width X Y hX hY (hT.hp hA)).mono ?_
  rintro e w' ⟨rfl, hw⟩
  exact ⟨rfl, hA.then0 hw⟩
theorem tt_entry (w0 w : World) (R : List Seg) (width C : Int) (X Y : List UInt8) (hX : X.length = 32) (hY : Y.length = 32) (hT : Tab w0) (hA : Hp w0 R w) : Calls Tryd.prog 83 #[.int .i64 width, .agg (dc X).toArray, .agg (.int .i64 C :: dc Y).toArray] w fun e w' => e = .returned (.agg (dc (ofL width 3 (X ++ be 8 (c64 C) ++ Y))).toArray) ∧ Hp w0 R w' := by
  refine (entry_any w width C X Y hX hY (hT.hp hA)).mono ?_
  rintro e w' ⟨rfl, hw⟩
  exact ⟨rfl, hA.then0 hw⟩
theorem tt_empty (w0 w : World) (R : List Seg) (width h : Int) (hT : Tab w0) (hA : Hp w0 R w) : Calls Tryd.prog 95 #[.int .i64 width, .int .i64 h] w fun e w' => e = .returned (.agg (dc (emptyL width (min (max h 0) 256).toNat)).toArray) ∧ Hp w0 R w' := by
  refine (empty_all w width h (hT.hp hA)).mono ?_
  rintro e w' ⟨rfl, hw⟩
  exact ⟨rfl, hA.then0 hw⟩
end Go.Proofs.YtpomngkcfbnjoaaDoor
