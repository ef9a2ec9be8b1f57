/- octet's Writer over segments. -/
import Derived.Test.YthphfbohhbkdgaaOctetW
import Derived.Test.YthphfbohhbkdgaaHr
namespace Go.Proofs.Ythphfbohhbkdgaa
open Go.RowKit Go.Dk

/-- a writer: its row, and behind it the memory of its bytes -/
def WrS (g : Nat) (l : List UInt8) (Y : Seg) : Prop := ∃ v X, Buf 5 1 X v l.length (dc l) ∧ Y = row g 93 [v] :: X
theorem WrS.same {g : Nat} {l l' : List UInt8} {Y : Seg} (h : WrS g l Y) (e : l = l') : WrS g l' Y := e ▸ h
/-- how much a call lets in -/
def bnd (m k : Int) : Int := min (max m 0) k
theorem bnd_le (m k : Int) : bnd m k ≤ k := by unfold bnd; omega
theorem bnd_nn (m k : Int) (h : 0 ≤ k) : 0 ≤ bnd m k := by unfold bnd; omega

set_option maxRecDepth 100000 in
set_option maxHeartbeats 1000000 in
theorem hw_bound (w : World) (m k : Int) : Calls Try.prog 100 #[.int .i64 m, .int .i64 k] w fun e w' => e = .returned (.int .i64 (bnd m k)) ∧ w = w' := by
  refine vc_enter Try.func100 rfl Try.ntmps100 (Nat.le_of_ble_eq_true rfl) (fun a hF => ?_)
  apply wp_seq_k; intro K1 hK1
  refine wp_region_lit ?_
  refine vc_y hF rfl rfl (by decide) _ (y_assign rfl rfl) (fun a hF => ?_)
  refine vc_nil ?_
  refine hK1 _ _ ?_; clear  hK1 K1
  apply wp_seq_k; intro K2 hK2
  refine wp_region_lit ?_
  refine vc_y hF rfl rfl (by decide) _ (y_move rfl rfl) (fun a hF => ?_)
  refine vc_y hF rfl rfl (by decide) _ (y_max rfl rfl rfl rfl) (fun a hF => ?_)
  refine vc_y hF rfl rfl (by decide) _ (y_move rfl rfl) (fun a hF => ?_)
  refine vc_y hF rfl rfl (by decide) _ (y_min rfl rfl rfl rfl) (fun a hF => ?_)
  refine vc_y hF rfl rfl (by decide) _ (y_assign rfl rfl) (fun a hF => ?_)
  refine vc_nil ?_
  refine hK2 _ _ ?_; clear  hK2 K2
  apply wp_ret
  refine vc_ret1 hF Try.results100 rfl ?_
  exact ⟨rfl, rfl⟩

end Go.Proofs.Ythphfbohhbkdgaa
