/- The walk of digest.Cut. -/
import Derived.Test.YtpomngkcfbnjoaaDoorMust
namespace Go.Proofs.YtpomngkcfbnjoaaDoor
open Go.RowKit Go.Dk
theorem zero5 : zeroIs Tryd.prog 5 (.int .u8 0) := by unfold zeroIs; kernel_rfl
def kept (m : Int) : Nat := (min (max m 1) 32).toNat
def cutL (D : List UInt8) (m : Int) : List UInt8 := D.take (kept m) ++ List.replicate (32 - kept m) 0
theorem kept_le (m : Int) : kept m ≤ 32 := by unfold kept; omega
theorem cutL_length (D : List UInt8) (m : Int) (h : D.length = 32) : (cutL D m).length = 32 := by
  have := kept_le m
  simp [cutL, h]; omega

theorem cut_cells (D : List UInt8) (h : D.length = 32) (k : Nat) (hk : k ≤ 32) : splice (dc D) k (List.replicate (32 - k) (.int .u8 0)) = dc (D.take k ++ List.replicate (32 - k) 0) := by
  have : (dc D).drop (k + (32 - k)) = [] := by rw [show k + (32 - k) = 32 by omega]; simp [dc, h]
  unfold splice
  rw [List.length_replicate, this]
  simp [dc]
theorem splice_all2 (X Y : List Value) (h : X.length = Y.length) : splice X 0 Y = Y := by
  have : X.drop (0 + Y.length) = [] := by simp [← h]
  unfold splice
  rw [this]
  simp

theorem dc_take (D : List UInt8) (X : List Value) (h : X = dc D) (hD : D.length = 32) : ((X.drop 0).take 32).toArray = (dc D).toArray := by
  subst h
  rw [List.drop_zero, List.take_of_length_le (by simp [dc, hD])]

set_option maxRecDepth 100000 in
set_option maxHeartbeats 1000000 in
theorem cut_any (D : List UInt8) (m : Int) (w : World) (hD : D.length = 32) :
    Calls Tryd.prog 28 #[.agg (dc D).toArray, .int .i64 m] w fun e w' => e = .returned (.agg (dc (cutL D m)).toArray) ∧ At w [] w' := by
  have hA0 := At.refl w
  have HD := Lib.hid hD
  have HL := Lib.hid (cutL_length D m hD)
  have HC := Lib.hid (cut_cells D hD (kept m) (kept_le m))
  have hkl := kept_le m
  clear hD
  have Hk : Hid (kept m = (min (max m 1) 32).toNat) := rfl
  have cases3 : m < 1 ∨ 32 < m ∨ (1 ≤ m ∧ m ≤ 32) := by omega
  rcases cases3 with hm | hm | ⟨hm, hm'⟩
  all_goals
    go_enter Tryd.func28, Tryd.ntmps28
    go_wp2_with (first
      | (with_reducible refine at_box rfl ?_
         refine wpList_plain rfl (fun _ hK => wp_box (v := .agg (dc D).toArray) rfl hA0 rfl (fun n1 w1 hn1 hA1 => hK _ _ ?_)); clear hK
         replace hA1 : At w [(n1, 23, dc D)] w1 := hA1)
      | (with_reducible refine at_alloc rfl ?_
         refine wpList_plain rfl (fun _ hK => wp_alloc rfl hA1 mu_zero36 (fun n2 w2 hn2 hA2 => hK _ _ ?_)); clear hK
         replace hA2 : At w [(n2, 23, dc (List.replicate 32 0)), (n1, 23, dc D)] w2 := hA2)
      | (with_reducible refine at_slice rfl ?_
         refine wpList_plain rfl (fun _ hK => wp_sliceArr (l := kept m) (h := 32) rfl Tryd.underlying23 bk_size5 rfl (boundIs_int _ _ _ _ (by have := Hk.out; omega)) (boundIs_none 32) hkl (Nat.le_refl _) (hK _ _ ?_)); clear hK)
      | (with_reducible refine at_bin (b := .clear) rfl ?_
         refine wpList_plain rfl (fun _ hK => wp_clear (off := kept m) rfl hA2 rfl (fun h => by rw [sub_lt (by omega), Nat.zero_add]) Tryd.underlying59 zero5 rfl rfl 1 rfl (by rw [dc_length, HD.out]; omega) (fun w3 hA3 => hK _ _ ?_)); clear hK
         replace hA3 : At w [(n2, 23, dc (List.replicate 32 0)), (n1, 23, dc (cutL D m))] w3 := by rw [show dc (cutL D m) = _ from HC.out.symm]; exact hA3)
      | (with_reducible refine at_load rfl ?_
         refine wpList_plain rfl (fun _ hK => wp_loadRow (off := 0) rfl hA3 rfl 1 rfl mu_row36 (by rw [dc_length, HL.out]; omega) (hK _ _ ?_)); clear hK
         rw [dc_take (cutL D m) _ rfl HL.out])
      | (with_reducible refine at_store rfl ?_
         refine wpList_plain rfl (fun _ hK => wp_storeRow (off := 0) (new := (dc (cutL D m)).toArray) rfl hA3 rfl rfl 0 rfl (by rw [List.size_toArray, dc_length, dc_length, HL.out]; decide) (fun v hv => dc_one _ v (by simpa using hv)) (by rw [mu_size36, List.size_toArray, dc_length, HL.out]) (fun w4 hA4 => hK _ _ ?_)); clear hK
         replace hA4 : At w [(n2, 23, dc (cutL D m)), (n1, 23, dc (cutL D m))] w4 := by
           have e : splice (dc (List.replicate 32 0)) 0 (dc (cutL D m)) = dc (cutL D m) := splice_all2 _ _ (by rw [dc_length, dc_length, HL.out]; rfl)
           have h4 : At w [(n2, 23, splice (dc (List.replicate 32 0)) 0 (dc (cutL D m))), (n1, 23, dc (cutL D m))] w4 := hA4
           rw [e] at h4; exact h4))
    refine bodyPost_ret (results_cell (by exact Tryd.results28) hA4 rfl 0 rfl (by rw [dc_length, HL.out]; exact mu_row36)) rfl ⟨rfl, hA4.clear ?_⟩
    have h1 := hA1.size
    intro r hr
    simp only [List.mem_cons, List.not_mem_nil, or_false] at hr
    rcases hr with rfl | rfl <;> simp only <;> omega

end Go.Proofs.YtpomngkcfbnjoaaDoor
