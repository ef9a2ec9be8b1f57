/- The program's Empty at any height. -/
import Derived.Test.YtpomngkcfbnjoaaDoorTab8
namespace Go.Proofs.YtpomngkcfbnjoaaDoor
open Go.RowKit Go.Dk

section
variable {P : Program} {n : Nat} {F : List (Nat × Value)} {o : Oper} {w : World} {x y : Operand} {ts : Array TypeId} {k k' : IntKind} {p q r : Int}
theorem y_max (ho : o.op = .call { callee := .builtin .max, args := #[x, y], argTypes := ts }) (hx : ev F x = some (.int k p)) (hy : ev F y = some (.int k' q)) (hr : max p q = r) : Yd P n F o w (.int k r) := fun a hF => by
  have h : (if q > p then q else p) = max p q := by rw [Int.max_def]; split <;> split <;> omega
  subst hr
  unfold execOp
  simp only [ho, hF.ev hx, hF.ev hy, resolve, invoke, builtin, Builtin.max_, List.map_toArray, List.map_cons, List.map_nil, Sem.run_bind, Sem.run_pure, Result.andThen_ok, List.foldlM_cons, List.foldlM_nil, Builtin.max2, h]
theorem y_min (ho : o.op = .call { callee := .builtin .min, args := #[x, y], argTypes := ts }) (hx : ev F x = some (.int k p)) (hy : ev F y = some (.int k' q)) (hr : min p q = r) : Yd P n F o w (.int k r) := fun a hF => by
  have h : (if q < p then q else p) = min p q := by rw [Int.min_def]; split <;> split <;> omega
  subst hr
  unfold execOp
  simp only [ho, hF.ev hx, hF.ev hy, resolve, invoke, builtin, Builtin.min_, List.map_toArray, List.map_cons, List.map_nil, Sem.run_bind, Sem.run_pure, Result.andThen_ok, List.foldlM_cons, List.foldlM_nil, Builtin.min2, h]
end
theorem rw36_t9 : isRow Tryd.prog 23 32 = true := by kernel_rfl
theorem cl44_t9 : CallsTo Tryd.prog 96 := ⟨_, Tryd.func96, by kernel_rfl, by kernel_rfl⟩
theorem cl51_t9 : CallsTo Tryd.prog 102 := ⟨_, Tryd.func102, by kernel_rfl, by kernel_rfl⟩

set_option maxRecDepth 100000 in
set_option maxHeartbeats 1000000 in
theorem empty_all (w : World) (width h : Int) (hT : Tab w) :
    Calls Tryd.prog 95 #[.int .i64 width, .int .i64 h] w fun e w' => e = .returned (.agg (dc (emptyL width (min (max h 0) 256).toNat)).toArray) ∧ At w [] w' := by
  have hA0 := At.refl w
  have hpos : 0 < w.heap.size := hT.lt
  have hdl := emptyL_length width
  obtain ⟨k, hk⟩ : ∃ k : Nat, min (max h 0) 256 = (k : Int) := ⟨(min (max h 0) 256).toNat, by omega⟩
  rw [hk, Int.toNat_natCast]
  refine vc_enter Tryd.func95 rfl Tryd.ntmps95 (Nat.le_of_ble_eq_true rfl) (fun a hF => ?_)
  apply wp_seq_k; intro K1 hK1
  refine wp_region_lit ?_
  refine vc_op rfl (fun K hK => ws_alloc hF rfl (by decide) rfl hA0 zero36 (fun b4 w1 a hb4 hF hA1 => hK _ _ ?_))
  clear hK K
  refine vc_nil ?_
  refine hK1 _ _ ?_; clear  hK1 K1
  apply wp_seq_k; intro K2 hK2
  refine wp_region_lit ?_
  refine vc_y hF rfl rfl (by decide) _ (y_move rfl rfl) (fun a hF => ?_)
  refine vc_op rfl (fun K hK => ws_call hF rfl (by decide) cl51_t9 rfl rfl ?_)
  with_reducible refine (of_all w1 width 5 5 rfl none [] 0 0 rfl (Pieces.nil _) (by decide) (by decide) (hT.at_ hA1 (not0w hpos (one_new hb4)))).mono ?_
  rintro e' w2 ⟨rfl, hc2⟩
  refine ⟨_, rfl, fun a hF => hK _ _ ?_⟩; clear hK K
  have hA2 := hA1.then0 hc2
  rw [show ofL width 5 (flat []) = emptyL width 0 from rfl] at hF
  refine vc_op rfl (fun K hK => ws_alloc hF rfl (by decide) rfl hA2 zero36 (fun b5 w3 a hb5 hF hA3 => hK _ _ ?_))
  clear hK K
  refine vc_op rfl (fun K hK => ws_storeAll hF rfl rfl hA3 rfl rfl 0 rfl (tb_z (hdl 0)) (dc_one _) tb_s (fun w4 hA4 => hK _ _ ?_))
  clear hK K
  replace hA4 : At w [(b5, 23, dc (emptyL width 0)), (b4, 23, dc (List.replicate 32 0))] w4 := hA4
  refine vc_nil ?_
  refine hK2 _ _ ?_; clear  hK2 K2
  apply wp_seq_k; intro K3 hK3
  apply wp_seq_k; intro K4 hK4
  refine wp_region_lit ?_
  refine vc_y hF rfl rfl (by decide) _ (y_move rfl rfl) (fun a hF => ?_)
  refine vc_y hF rfl rfl (by decide) _ (y_max rfl rfl rfl rfl) (fun a hF => ?_)
  refine vc_y hF rfl rfl (by decide) _ (y_min rfl rfl rfl hk) (fun a hF => ?_)
  refine vc_y hF rfl rfl (by decide) _ (y_move rfl rfl) (fun a hF => ?_)
  refine vc_nil ?_
  refine hK4 _ _ ?_; clear  hK4 K4
  apply wp_block
  have hnr : ∀ cs, ∀ r ∈ [(b5, 23, cs), (b4, 23, dc (List.replicate 32 0))], w.heap.size ≤ (r : Row).1 := fun _ => cons_new (by have := hA2.size; omega) (one_new hb4)
  refine vc_loop (G := Nat) (fun i a x => i ≤ k ∧ Fr 19 [(11, .int .i64 (i : Int)), (0, .int .i64 width), (4, .pointer (some ⟨b4, 0, none⟩)), (5, .pointer (some ⟨b5, 0, none⟩)), (10, .int .i64 (k : Int))] a ∧ At w [(b5, 23, dc (emptyL width i)), (b4, 23, dc (List.replicate 32 0))] x) (fun i => k - i) 0 ⟨Nat.zero_le _, hF.keep [11, 0, 4, 5, 10] rfl, hA4⟩ ?_
  clear hF
  rintro i a wr ⟨hi, hF, hAr⟩
  by_cases hlt : i < k
  · apply wp_seq_k; intro K5 hK5
    refine wp_region_lit ?_
    refine vc_y hF rfl rfl (by decide) _ (y_cmp rfl rfl rfl rfl rfl) (fun a hF => ?_)
    refine vc_nil ?_
    refine hK5 _ _ ?_; clear  hK5 K5
    apply wp_seq_k; intro K6 hK6
    refine vc_trueB hF rfl (lss_t (by omega)) ?_
    apply wp_skip
    refine hK6 _ _ ?_; clear  hK6 K6
    apply wp_seq_k; intro K7 hK7
    apply wp_block
    refine wp_region_lit ?_
    refine vc_y hF rfl rfl (by decide) _ (y_move rfl rfl) (fun a hF => ?_)
    refine vc_y hF rfl rfl (by decide) _ (y_loadRow rfl hAr rfl 0 rfl rw36_t9 (by show 0 + 32 ≤ (dc (emptyL width i)).length; rw [dc_length, hdl]; decide) (new := dc (emptyL width i)) (by rw [List.drop_zero]; exact List.take_of_length_le (by rw [dc_length, hdl]; exact Nat.le_refl _))) (fun a hF => ?_)
    refine vc_y hF rfl rfl (by decide) _ (y_loadRow rfl hAr rfl 0 rfl rw36_t9 (by show 0 + 32 ≤ (dc (emptyL width i)).length; rw [dc_length, hdl]; decide) (new := dc (emptyL width i)) (by rw [List.drop_zero]; exact List.take_of_length_le (by rw [dc_length, hdl]; exact Nat.le_refl _))) (fun a hF => ?_)
    refine vc_op rfl (fun K hK => ws_call hF rfl (by decide) cl44_t9 rfl rfl ?_)
    with_reducible refine (branch_all wr width _ _ (hdl i) (hdl i) (hT.at_ hAr (not0w hpos (hnr _)))).mono ?_
    rintro e' w6 ⟨rfl, hc6⟩
    refine ⟨_, rfl, fun a hF => hK _ _ ?_⟩; clear hK K
    have hA6 := hAr.then0 hc6
    rw [show ofL width 4 (emptyL width i ++ emptyL width i) = emptyL width (i + 1) from rfl] at hF
    refine vc_op rfl (fun K hK => ws_storeAll hF rfl rfl hA6 rfl rfl 0 rfl (by rw [dc_length, dc_length, hdl, hdl]) (dc_one _) (by rw [size36, dc_length, hdl]) (fun w7 hA7 => hK _ _ ?_))
    clear hK K
    replace hA7 : At w [(b5, 23, dc (emptyL width (i + 1))), (b4, 23, dc (List.replicate 32 0))] w7 := hA7
    refine vc_nil ?_
    refine hK7 _ _ ?_; clear  hK7 K7
    refine wp_region_lit ?_
    refine vc_y hF rfl rfl (by decide) _ (y_add rfl rfl rfl (show IntKind.i64.wrap ((i : Int) + 1) = ((i + 1 : Nat) : Int) by rw [IntWalk.i64_in _ (by omega)]; omega)) (fun a hF => ?_)
    refine vc_y hF rfl rfl (by decide) _ (y_move rfl rfl) (fun a hF => ?_)
    refine vc_nil ?_
    exact ⟨i + 1, by omega, by omega, hF.keep [11, 0, 4, 5, 10] rfl, hA7⟩
  · obtain rfl : i = k := by omega
    apply wp_seq_k; intro K8 hK8
    refine wp_region_lit ?_
    refine vc_y hF rfl rfl (by decide) _ (y_cmp rfl rfl rfl rfl rfl) (fun a hF => ?_)
    refine vc_nil ?_
    refine hK8 _ _ ?_; clear  hK8 K8
    apply wp_seq_k; intro K9 hK9
    refine vc_falseB hF rfl (lss_f (by omega)) ?_
    apply wp_exit
    refine hK3 _ _ ?_; clear hK9 K9 hK3 K3
    apply wp_seq_k; intro K10 hK10
    refine wp_region_lit ?_
    refine vc_y hF rfl rfl (by decide) _ (y_loadRow rfl hAr rfl 0 rfl rw36_t9 (by show 0 + 32 ≤ (dc (emptyL width i)).length; rw [dc_length, hdl]; decide) (new := dc (emptyL width i)) (by rw [List.drop_zero]; exact List.take_of_length_le (by rw [dc_length, hdl]; exact Nat.le_refl _))) (fun a hF => ?_)
    refine vc_op rfl (fun K hK => ws_storeAll hF rfl rfl hAr rfl rfl 1 rfl (tb_z (hdl i)) (dc_one _) tb_s (fun w8 hA8 => hK _ _ ?_))
    clear hK K
    refine vc_nil ?_
    refine hK10 _ _ ?_; clear  hK10 K10
    apply wp_ret
    refine vc_retc hF Tryd.results95 hA8 rfl 1 rfl (tb_row36 (hdl i)) ?_
    exact ⟨rfl, hA8.clear (cons_new (by have := hA2.size; omega) (one_new hb4))⟩
end Go.Proofs.YtpomngkcfbnjoaaDoor
