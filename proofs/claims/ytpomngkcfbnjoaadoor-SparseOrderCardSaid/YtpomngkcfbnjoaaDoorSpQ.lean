/- docketref8 walked. -/
import Derived.Test.YtpomngkcfbnjoaaDoorSpZ
import Derived.Test.YtpomngkcfbnjoaaDoorSp1
import Derived.Test.YtpomngkcfbnjoaaDoorLawSplits
namespace Go.Proofs.YtpomngkcfbnjoaaDoor
open Go.RowKit Go.Dk

/-! ### keys held against one another -/
theorem cel_snoc (l : List Itm) (x : Itm) : cel Itm.cells (l ++ [x]) = cel Itm.cells l ++ x.cells := by
  rw [cel_append]
  congr 1
  unfold cel
  simp
theorem snoc_len (l : List Itm) (x : Itm) : l.length + 1 = (l ++ [x]).length := (@List.length_append Itm l [x]).symm
theorem cells_one (l : List Itm) : ∀ v ∈ cel Itm.cells l, v.oneCell' = true := fun v hv => by
  obtain ⟨W, h1, h2⟩ := List.mem_flatten.1 hv
  obtain ⟨i, _, rfl⟩ := List.mem_map.1 h1
  exact Itm.one i v h2
theorem sz54_s15 : (Tryd.prog.info? 54).map (·.size) = some 65 := by kernel_rfl
set_option maxRecDepth 100000 in
set_option maxHeartbeats 2000000 in
theorem rr_fewI (w0 w : World) (R : List Seg) (A : Option Addr) (n m c : Nat) (hn : n ≤ c) (hA : Hp w0 R w) : Calls Tryd.prog 32 #[.slice A n c, .int .i64 ((m : Nat) : Int)] w fun e w' => e = .returned (.slice A (min n m) c) ∧ Hp w0 R w' := by
  refine vc_enter Tryd.func32 rfl Tryd.ntmps32 (Nat.le_of_ble_eq_true rfl) (fun a hF => ?_)
  apply wp_seq_k; intro K1 hK1
  refine wp_region_lit ?_
  refine vc_y hF rfl rfl (by decide) _ (y_assign rfl rfl) (fun a hF => ?_)
  refine vc_nil ?_
  refine hK1 _ _ ?_; clear  hK1 K1
  apply wp_seq_k; intro K2 hK2
  apply wp_seq_k; intro K3 hK3
  by_cases hgt : m < n
  · refine wp_region_lit ?_
    refine vc_y hF rfl rfl (by decide) _ (y_move rfl rfl) (fun a hF => ?_)
    refine vc_y hF rfl rfl (by decide) _ (y_lenSl rfl Tryd.underlying55 rfl rfl) (fun a hF => ?_)
    refine vc_y hF rfl rfl (by decide) _ (y_move rfl rfl) (fun a hF => ?_)
    refine vc_y hF rfl rfl (by decide) _ (y_cmp rfl rfl rfl rfl (gtr_t (by omega))) (fun a hF => ?_)
    refine vc_nil ?_
    refine hK3 _ _ ?_; clear  hK3 K3
    refine vc_true hF rfl ?_
    apply wp_seq_k; intro K4 hK4
    refine wp_region_lit ?_
    refine vc_y hF rfl rfl (by decide) _ (y_move rfl rfl) (fun a hF => ?_)
    refine vc_y hF rfl rfl (by decide) _ (y_move rfl rfl) (fun a hF => ?_)
    refine vc_y hF rfl rfl (by decide) _ (y_slice rfl Tryd.underlying55 sz54_s15 rfl (.none 0) (.some rfl rfl) (Nat.zero_le _) (show m ≤ c by omega) slice_to) (fun a hF => ?_)
    refine vc_y hF rfl rfl (by decide) _ (y_assign rfl rfl) (fun a hF => ?_)
    refine vc_nil ?_
    refine hK4 _ _ ?_; clear  hK4 K4
    apply wp_ret
    simp only [Exit.then]
    refine vc_ret1 hF Tryd.results32 rfl ?_
    exact ⟨by rw [show min n m = m by omega], hA⟩
  · refine wp_region_lit ?_
    refine vc_y hF rfl rfl (by decide) _ (y_move rfl rfl) (fun a hF => ?_)
    refine vc_y hF rfl rfl (by decide) _ (y_lenSl rfl Tryd.underlying55 rfl rfl) (fun a hF => ?_)
    refine vc_y hF rfl rfl (by decide) _ (y_move rfl rfl) (fun a hF => ?_)
    refine vc_y hF rfl rfl (by decide) _ (y_cmp rfl rfl rfl rfl (gtr_f (by omega))) (fun a hF => ?_)
    refine vc_nil ?_
    refine hK3 _ _ ?_; clear  hK3 K3
    refine vc_false hF rfl ?_
    apply wp_skip
    refine hK2 _ _ ?_; clear  hK2 K2
    apply wp_seq_k; intro K5 hK5
    refine wp_region_lit ?_
    refine vc_y hF rfl rfl (by decide) _ (y_move rfl rfl) (fun a hF => ?_)
    refine vc_y hF rfl rfl (by decide) _ (y_assign rfl rfl) (fun a hF => ?_)
    refine vc_nil ?_
    refine hK5 _ _ ?_; clear  hK5 K5
    apply wp_ret
    refine vc_ret1 hF Tryd.results32 rfl ?_
    exact ⟨by rw [show min n m = n by omega], hA⟩

end Go.Proofs.YtpomngkcfbnjoaaDoor
