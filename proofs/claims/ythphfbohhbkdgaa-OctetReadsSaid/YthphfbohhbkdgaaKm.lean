/- The statements' marks. -/
import Derived.Test.YthphfbohhbkdgaaKb
import Derived.Test.YthphfbohhbkdgaaBook1
namespace Go.Proofs.Ythphfbohhbkdgaa
open Go.RowKit Go.Dk

def kb_b (m : Nat) : UInt8 := UInt8.ofNat m
def kb_mb (i j : Nat) : UInt8 := kb_b ((i + 1) / 2 ^ (8 * (j % 3)))
def kb_three (i : Nat) : List UInt8 := [kb_b i, kb_b (i / 2 ^ 8), kb_b (i / 2 ^ 16)]
def kb_ms (i _j : Nat) : List UInt8 := [109, 97, 114, 107, 32] ++ kb_three i
def kb_md (i _j : Nat) : List UInt8 := [211] ++ kb_three i ++ [211] ++ List.replicate 27 0
theorem rw74_km : isRow Try.prog 74 32 = true := by kernel_rfl
theorem sz74_km : (Try.prog.info? 74).map (·.size) = some 32 := by kernel_rfl

theorem zr74_km : zeroIs Try.prog 74 (.agg (dc (List.replicate 32 0)).toArray) := by unfold zeroIs; kernel_rfl

set_option maxRecDepth 100000 in
set_option maxHeartbeats 4000000 in
theorem kb_mark_byte (w0 : World) (i j : Nat) (R : List Seg) (w : World) (hi : i < 4000) (hj : j < 9223372036854775807) (hA : Hp w0 R w) : Calls Try.prog 16 #[.int .i64 (i : Int), .int .i64 (j : Int)] w fun e w' => e = .returned (.int .u8 ((kb_mb i j).toNat : Int)) ∧ Hp w0 R w' := by
  refine vc_enter Try.func16 rfl Try.ntmps16 (Nat.le_of_ble_eq_true rfl) (fun a hF => ?_)
  apply wp_seq_k; intro K1 hK1
  refine wp_region_lit ?_
  refine vc_y hF rfl rfl (by decide) _ (y_assign rfl rfl) (fun a hF => ?_)
  refine vc_nil ?_
  refine hK1 _ _ ?_; clear  hK1 K1
  apply wp_seq_k; intro K2 hK2
  refine wp_region_lit ?_
  refine vc_y hF rfl rfl (by decide) _ (y_move rfl rfl) (fun a hF => ?_)
  refine vc_y hF rfl rfl (by decide) _ (y_add (r := ((i + 1 : Nat) : Int)) rfl rfl rfl (by rw [IntWalk.i64_in _ (by omega)]; omega)) (fun a hF => ?_)
  refine vc_y hF rfl rfl (by decide) _ (y_move rfl rfl) (fun a hF => ?_)
  refine vc_y hF rfl rfl (by decide) _ (y_rem (r := ((j % 3 : Nat) : Int)) rfl rfl rfl (by decide) (by rw [Int.tmod_eq_emod_of_nonneg (by omega)]; omega)) (fun a hF => ?_)
  refine vc_y hF rfl rfl (by decide) _ (y_mul (r := ((8 * (j % 3) : Nat) : Int)) rfl rfl rfl (by rw [IntWalk.i64_in _ (by omega)]; omega)) (fun a hF => ?_)
  refine vc_y hF rfl rfl (by decide) _ (y_conv rfl Try.underlying3 Try.underlying91 rfl (show IntKind.u64.wrap (((8 * (j % 3) : Nat) : Int)) = ((8 * (j % 3) : Nat) : Int) by rw [IntKind.wrap_u64]; omega)) (fun a hF => ?_)
  refine vc_y hF rfl rfl (by decide) _ (y_shr (r := (((i + 1) / 2 ^ (8 * (j % 3)) : Nat) : Int)) rfl rfl rfl (by omega) (shr_nat _ _ _ rfl (by omega))) (fun a hF => ?_)
  refine vc_y hF rfl rfl (by decide) _ (y_conv (r := ((kb_b ((i + 1) / 2 ^ (8 * (j % 3)))).toNat : Int)) rfl Try.underlying3 Try.underlying5 rfl (b8_nat _)) (fun a hF => ?_)
  refine vc_y hF rfl rfl (by decide) _ (y_assign rfl rfl) (fun a hF => ?_)
  refine vc_nil ?_
  refine hK2 _ _ ?_; clear  hK2 K2
  apply wp_ret
  refine vc_ret1 hF Try.results16 rfl ?_
  exact ⟨rfl, hA⟩

theorem kb_bs3 (x y z : Int) (w : World) : (Instr.buildSlice 35 3 #[(0, .int .u8 x), (1, .int .u8 y), (2, .int .u8 z)]).run Try.prog w = .ok (.slice (some ⟨w.heap.size, 0, none⟩) 3 3) (w.alloc (.cells #[.int .u8 x, .int .u8 y, .int .u8 z] 5)) := by kernel_rfl

set_option maxRecDepth 100000 in
set_option maxHeartbeats 4000000 in
theorem kb_mark_string (w0 : World) (i j : Nat) (R : List Seg) (w : World) (_hi : i < 4000) (_hj : j < 9223372036854775807) (hA : Hp w0 R w) : Calls Try.prog 36 #[.int .i64 (i : Int), .int .i64 (j : Int)] w fun e w' => e = .returned (strV (kb_ms i j)) ∧ Hp w0 R w' := by
  refine vc_enter Try.func36 rfl Try.ntmps36 (Nat.le_of_ble_eq_true rfl) (fun a hF => ?_)
  apply wp_seq_k; intro K1 hK1
  refine wp_region_lit ?_
  refine vc_y hF rfl rfl (by decide) _ (y_assign rfl rfl) (fun a hF => ?_)
  refine vc_nil ?_
  refine hK1 _ _ ?_; clear  hK1 K1
  apply wp_seq_k; intro K2 hK2
  refine wp_region_lit ?_
  refine vc_y hF rfl rfl (by decide) _ (y_move rfl rfl) (fun a hF => ?_)
  refine vc_y hF rfl rfl (by decide) _ (y_conv (r := ((kb_b (i)).toNat : Int)) rfl Try.underlying3 Try.underlying5 rfl (b8_nat _)) (fun a hF => ?_)
  refine vc_y hF rfl rfl (by decide) _ (y_move rfl rfl) (fun a hF => ?_)
  refine vc_y hF rfl rfl (by decide) _ (y_shr (r := ((i / 2 ^ 8 : Nat) : Int)) rfl rfl rfl (by decide) (shr_nat i 8 _ rfl (by decide))) (fun a hF => ?_)
  refine vc_y hF rfl rfl (by decide) _ (y_conv (r := ((kb_b (i / 2 ^ 8)).toNat : Int)) rfl Try.underlying3 Try.underlying5 rfl (b8_nat _)) (fun a hF => ?_)
  refine vc_y hF rfl rfl (by decide) _ (y_move rfl rfl) (fun a hF => ?_)
  refine vc_y hF rfl rfl (by decide) _ (y_shr (r := ((i / 2 ^ 16 : Nat) : Int)) rfl rfl rfl (by decide) (shr_nat i 16 _ rfl (by decide))) (fun a hF => ?_)
  refine vc_y hF rfl rfl (by decide) _ (y_conv (r := ((kb_b (i / 2 ^ 16)).toNat : Int)) rfl Try.underlying3 Try.underlying5 rfl (b8_nat _)) (fun a hF => ?_)
  refine vc_op rfl (fun K hK => hs_bs (qs := #[(0, .int .u8 ((kb_b i).toNat : Int)), (1, .int .u8 ((kb_b (i / 2 ^ 8)).toNat : Int)), (2, .int .u8 ((kb_b (i / 2 ^ 16)).toNat : Int))]) (cells := #[.int .u8 ((kb_b i).toNat : Int), .int .u8 ((kb_b (i / 2 ^ 8)).toNat : Int), .int .u8 ((kb_b (i / 2 ^ 16)).toNat : Int)]) hF rfl (by decide) rfl hA rfl (kb_bs3 _ _ _) (fun b1 w2 a hb1 hF hA3 => hK _ _ ?_))
  clear hK K
  replace hA3 : Hp w0 ([row b1 5 (dc (kb_three i))] :: R) w2 := hA3
  refine vc_y hF rfl rfl (by decide) _ (y_convStr (l := kb_three i) rfl Try.underlying35 Try.underlying5 Try.underlying9 rfl rfl ((show Rd w0 ([row b1 5 (dc (kb_three i))] :: R) (some ⟨b1, 0, none⟩) (kb_three i) from Rc.ofRow (i := 0) (off := 0) rfl rfl).bts hA3.q)) (fun a hF => ?_)
  refine vc_y hF rfl rfl (by decide) _ (y_catS (s := [109, 97, 114, 107, 32]) (u := kb_three i) rfl rfl rfl (Nat.le_of_ble_eq_true rfl)) (fun a hF => ?_)
  refine vc_y hF rfl rfl (by decide) _ (y_assign rfl rfl) (fun a hF => ?_)
  refine vc_nil ?_
  refine hK2 _ _ ?_; clear  hK2 K2
  apply wp_ret
  refine vc_ret1 hF Try.results36 rfl ?_
  have hA4 : Hp w0 (R) w2 := Hp.sel [[row b1 5 (dc (kb_three i))]] R [] [0] hA3 rfl
  exact ⟨rfl, hA4⟩

theorem kb_bd5 (i j : Nat) (w : World) : (Instr.build 74 #[(0, .int .u8 211), (1, .int .u8 ((kb_b i).toNat : Int)), (2, .int .u8 ((kb_b (i / 2 ^ 8)).toNat : Int)), (3, .int .u8 ((kb_b (i / 2 ^ 16)).toNat : Int)), (4, .int .u8 211)]).run Try.prog w = .ok (.agg (dc (kb_md i j)).toArray) w := by kernel_rfl

set_option maxRecDepth 100000 in
set_option maxHeartbeats 4000000 in
theorem kb_mark_digest (w0 : World) (i j : Nat) (R : List Seg) (w : World) (_hi : i < 4000) (_hj : j < 9223372036854775807) (hA : Hp w0 R w) : Calls Try.prog 38 #[.int .i64 (i : Int), .int .i64 (j : Int)] w fun e w' => e = .returned (.agg (dc (kb_md i j)).toArray) ∧ Hp w0 R w' := by
  refine vc_enter Try.func38 rfl Try.ntmps38 (Nat.le_of_ble_eq_true rfl) (fun a hF => ?_)
  apply wp_seq_k; intro K1 hK1
  refine wp_region_lit ?_
  refine vc_op rfl (fun K hK => hs_alloc hF rfl (by decide) rfl hA (zr74_km) (fun b1 w2 a hb1 hF hA3 => hK _ _ ?_))
  clear hK K
  replace hA3 : Hp w0 ([row b1 74 (dc (List.replicate 32 0))] :: R) w2 := hA3
  refine vc_nil ?_
  refine hK1 _ _ ?_; clear  hK1 K1
  apply wp_seq_k; intro K2 hK2
  refine wp_region_lit ?_
  refine vc_y hF rfl rfl (by decide) _ (y_move rfl rfl) (fun a hF => ?_)
  refine vc_y hF rfl rfl (by decide) _ (y_conv (r := ((kb_b (i)).toNat : Int)) rfl Try.underlying3 Try.underlying5 rfl (b8_nat _)) (fun a hF => ?_)
  refine vc_y hF rfl rfl (by decide) _ (y_move rfl rfl) (fun a hF => ?_)
  refine vc_y hF rfl rfl (by decide) _ (y_shr (r := ((i / 2 ^ 8 : Nat) : Int)) rfl rfl rfl (by decide) (shr_nat i 8 _ rfl (by decide))) (fun a hF => ?_)
  refine vc_y hF rfl rfl (by decide) _ (y_conv (r := ((kb_b (i / 2 ^ 8)).toNat : Int)) rfl Try.underlying3 Try.underlying5 rfl (b8_nat _)) (fun a hF => ?_)
  refine vc_y hF rfl rfl (by decide) _ (y_move rfl rfl) (fun a hF => ?_)
  refine vc_y hF rfl rfl (by decide) _ (y_shr (r := ((i / 2 ^ 16 : Nat) : Int)) rfl rfl rfl (by decide) (shr_nat i 16 _ rfl (by decide))) (fun a hF => ?_)
  refine vc_y hF rfl rfl (by decide) _ (y_conv (r := ((kb_b (i / 2 ^ 16)).toNat : Int)) rfl Try.underlying3 Try.underlying5 rfl (b8_nat _)) (fun a hF => ?_)
  refine vc_y hF rfl rfl (by decide) _ (y_build (qs := #[(0, .int .u8 211), (1, .int .u8 ((kb_b i).toNat : Int)), (2, .int .u8 ((kb_b (i / 2 ^ 8)).toNat : Int)), (3, .int .u8 ((kb_b (i / 2 ^ 16)).toNat : Int)), (4, .int .u8 211)]) rfl rfl (kb_bd5 i j)) (fun a hF => ?_)
  refine vc_op rfl (fun K hK => hs_storeAll (new := dc (kb_md i j)) hF rfl rfl hA3 rfl rfl 0 rfl rfl (dc_one _) sz74_km (fun w4 hA5 => hK _ _ ?_))
  clear hK K
  replace hA5 : Hp w0 ([row b1 74 (dc (kb_md i j))] :: R) w4 := hA5
  refine vc_nil ?_
  refine hK2 _ _ ?_; clear  hK2 K2
  apply wp_ret
  refine vc_retR hF Try.results38 hA5.q rfl 0 rfl (by exact rw74_km) ?_
  have hA6 : Hp w0 (R) w4 := Hp.sel [[row b1 74 (dc (kb_md i j))]] R [] [0] hA5 rfl
  exact ⟨rfl, hA6⟩
end Go.Proofs.Ythphfbohhbkdgaa
