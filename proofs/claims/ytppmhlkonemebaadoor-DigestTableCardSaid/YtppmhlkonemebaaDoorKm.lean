/- The statements' marks. -/
import Derived.Test.YtppmhlkonemebaaDoorKb
import Derived.Test.YtppmhlkonemebaaDoorBook1
namespace Go.Proofs.YtppmhlkonemebaaDoor
open Go.RowKit Go.Dk

def kb_b (m : Nat) : UInt8 := UInt8.ofNat m
def kb_mb (i j : Nat) : UInt8 := kb_b ((i + 1) / 2 ^ (8 * (j % 3)))
set_option maxRecDepth 100000 in
set_option maxHeartbeats 4000000 in
theorem kb_mark_byte (w0 : World) (i j : Nat) (R : List Seg) (w : World) (hi : i < 4000) (hj : j < 9223372036854775807) (hA : Hp w0 R w) : Calls Tryd.prog 32 #[.int .i64 (i : Int), .int .i64 (j : Int)] w fun e w' => e = .returned (.int .u8 ((kb_mb i j).toNat : Int)) ∧ Hp w0 R w' := by
  refine vc_enter Tryd.func32 rfl Tryd.ntmps32 (Nat.le_of_ble_eq_true rfl) (fun a hF => ?_)
  apply wp_seq_k; intro K1 hK1
  refine wp_region_lit ?_
  refine vc_y hF rfl rfl (by decide) _ (y_assign rfl rfl) (fun a hF => ?_)
  refine vc_nil ?_
  refine hK1 _ _ ?_; clear  hK1 K1
  apply wp_seq_k; intro K2 hK2
  refine wp_region_lit ?_
  refine vc_y hF rfl rfl (by decide) _ (y_move rfl rfl) (fun a hF => ?_)
  refine vc_y hF rfl rfl (by decide) _ (y_add (r := ((i + 1 : Nat) : Int)) rfl rfl rfl (by rw [IntWalk.i64_in _ (by omega)]; omega)) (fun a hF => ?_)
  refine vc_y hF rfl rfl (by decide) _ (y_move rfl rfl) (fun a hF => ?_)
  refine vc_y hF rfl rfl (by decide) _ (y_rem (r := ((j % 3 : Nat) : Int)) rfl rfl rfl (by decide) (by rw [Int.tmod_eq_emod_of_nonneg (by omega)]; omega)) (fun a hF => ?_)
  refine vc_y hF rfl rfl (by decide) _ (y_mul (r := ((8 * (j % 3) : Nat) : Int)) rfl rfl rfl (by rw [IntWalk.i64_in _ (by omega)]; omega)) (fun a hF => ?_)
  refine vc_y hF rfl rfl (by decide) _ (y_conv rfl Tryd.underlying3 Tryd.underlying47 rfl (show IntKind.u64.wrap (((8 * (j % 3) : Nat) : Int)) = ((8 * (j % 3) : Nat) : Int) by rw [IntKind.wrap_u64]; omega)) (fun a hF => ?_)
  refine vc_y hF rfl rfl (by decide) _ (y_shr (r := (((i + 1) / 2 ^ (8 * (j % 3)) : Nat) : Int)) rfl rfl rfl (by omega) (shr_nat _ _ _ rfl (by omega))) (fun a hF => ?_)
  refine vc_y hF rfl rfl (by decide) _ (y_conv (r := ((kb_b ((i + 1) / 2 ^ (8 * (j % 3)))).toNat : Int)) rfl Tryd.underlying3 Tryd.underlying5 rfl (b8_nat _)) (fun a hF => ?_)
  refine vc_y hF rfl rfl (by decide) _ (y_assign rfl rfl) (fun a hF => ?_)
  refine vc_nil ?_
  refine hK2 _ _ ?_; clear  hK2 K2
  apply wp_ret
  refine vc_ret1 hF Tryd.results32 rfl ?_
  exact ⟨rfl, hA⟩
end Go.Proofs.YtppmhlkonemebaaDoor
