/- DigestCuts: for every digest and any two widths the law 'DigestCuts' returns true. No condition. -/
import Derived.Test.YtppmhlkonemebaaRows
import Derived.Test.YtppmhlkonemebaaMem
import Derived.Test.YtppmhlkonemebaaRegion
import Derived.Test.YtppmhlkonemebaaOpen
namespace Go.Proofs.Ytppmhlkonemebaa.digestCuts
open Go.ChangeShapes Go.WideShapes Go.ChangeAt Go.RowKit Go.Dk

theorem dc_length (D : List UInt8) : (dc D).length = D.length := by simp [dc]
theorem zero23 : zeroIs Try.prog 23 (.agg (dc (List.replicate 32 0)).toArray) := by unfold zeroIs; kernel_rfl
theorem zero5 : zeroIs Try.prog 5 (.int .u8 0) := by unfold zeroIs; kernel_rfl
theorem row23 : isRow Try.prog 23 32 = true := by kernel_rfl
theorem size23 : (Try.prog.info? 23).map (·.size) = some 32 := by kernel_rfl
theorem size5 : (Try.prog.info? 5).map (·.size) = some 1 := by kernel_rfl

def kept (m : Int) : Nat := (min (max m 1) 32).toNat
def cutL (D : List UInt8) (m : Int) : List UInt8 := D.take (kept m) ++ List.replicate (32 - kept m) 0
theorem kept_le (m : Int) : kept m ≤ 32 := by unfold kept; omega
theorem cutL_length (D : List UInt8) (m : Int) (h : D.length = 32) : (cutL D m).length = 32 := by
  have := kept_le m
  simp [cutL, h]; omega

theorem cut_cells (D : List UInt8) (h : D.length = 32) (k : Nat) (hk : k ≤ 32) : splice (dc D) k (List.replicate (32 - k) (.int .u8 0)) = dc (D.take k ++ List.replicate (32 - k) 0) := by
  have : (dc D).drop (k + (32 - k)) = [] := by rw [show k + (32 - k) = 32 by omega]; simp [dc, h]
  unfold splice
  rw [List.length_replicate, this]
  simp [dc]
theorem dc_one (D : List UInt8) : ∀ v ∈ (dc D).toArray, v.oneCell' = true := by
  intro v hv
  simp [dc] at hv
  obtain ⟨b, _, rfl⟩ := hv
  rfl
theorem splice_all (X Y : List Value) (h : X.length = Y.length) : splice X 0 Y = Y := by
  have : X.drop (0 + Y.length) = [] := by simp [← h]
  unfold splice
  rw [this]
  simp

theorem dc_take (D : List UInt8) (X : List Value) (h : X = dc D) (hD : D.length = 32) : ((X.drop 0).take 32).toArray = (dc D).toArray := by
  subst h
  rw [List.drop_zero, List.take_of_length_le (by simp [dc, hD])]

set_option maxHeartbeats 1000000 in
theorem cut_any (D : List UInt8) (m : Int) (w : World) (hD : D.length = 32) :
    Calls Try.prog 4 #[.agg (dc D).toArray, .int .i64 m] w fun e w' => e = .returned (.agg (dc (cutL D m)).toArray) ∧ At w [] w' := by
  have hA0 := At.refl w
  have HD := Lib.hid hD
  have HL := Lib.hid (cutL_length D m hD)
  have HC := Lib.hid (cut_cells D hD (kept m) (kept_le m))
  have hkl := kept_le m
  clear hD
  have Hk : Hid (kept m = (min (max m 1) 32).toNat) := rfl
  have cases3 : m < 1 ∨ 32 < m ∨ (1 ≤ m ∧ m ≤ 32) := by omega
  rcases cases3 with hm | hm | ⟨hm, hm'⟩
  all_goals
    go_enter Try.func4, Try.ntmps4
    go_wp2_with (first
      | (with_reducible refine at_box rfl ?_
         refine wpList_plain rfl (fun _ hK => wp_box (v := .agg (dc D).toArray) rfl hA0 rfl (fun n1 w1 hn1 hA1 => hK _ _ ?_)); clear hK
         replace hA1 : At w [(n1, 23, dc D)] w1 := hA1)
      | (with_reducible refine at_alloc rfl ?_
         refine wpList_plain rfl (fun _ hK => wp_alloc rfl hA1 zero23 (fun n2 w2 hn2 hA2 => hK _ _ ?_)); clear hK
         replace hA2 : At w [(n2, 23, dc (List.replicate 32 0)), (n1, 23, dc D)] w2 := hA2)
      | (with_reducible refine at_slice rfl ?_
         refine wpList_plain rfl (fun _ hK => wp_sliceArr (l := kept m) (h := 32) rfl Try.underlying23 size5 rfl (boundIs_int _ _ _ _ (by have := Hk.out; omega)) (boundIs_none 32) hkl (Nat.le_refl _) (hK _ _ ?_)); clear hK)
      | (with_reducible refine at_bin (b := .clear) rfl ?_
         refine wpList_plain rfl (fun _ hK => wp_clear (off := kept m) rfl hA2 rfl (fun h => by rw [sub_lt (by omega), Nat.zero_add]) Try.underlying26 zero5 rfl rfl 1 rfl (by rw [dc_length, HD.out]; omega) (fun w3 hA3 => hK _ _ ?_)); clear hK
         replace hA3 : At w [(n2, 23, dc (List.replicate 32 0)), (n1, 23, dc (cutL D m))] w3 := by rw [show dc (cutL D m) = _ from HC.out.symm]; exact hA3)
      | (with_reducible refine at_load rfl ?_
         refine wpList_plain rfl (fun _ hK => wp_loadRow (off := 0) rfl hA3 rfl 1 rfl row23 (by rw [dc_length, HL.out]; omega) (hK _ _ ?_)); clear hK
         rw [dc_take (cutL D m) _ rfl HL.out])
      | (with_reducible refine at_store rfl ?_
         refine wpList_plain rfl (fun _ hK => wp_storeRow (off := 0) (new := (dc (cutL D m)).toArray) rfl hA3 rfl rfl 0 rfl (by rw [List.size_toArray, dc_length, dc_length, HL.out]; decide) (dc_one _) (by rw [size23, List.size_toArray, dc_length, HL.out]) (fun w4 hA4 => hK _ _ ?_)); clear hK
         replace hA4 : At w [(n2, 23, dc (cutL D m)), (n1, 23, dc (cutL D m))] w4 := by
           have e : splice (dc (List.replicate 32 0)) 0 (dc (cutL D m)) = dc (cutL D m) := splice_all _ _ (by rw [dc_length, dc_length, HL.out]; rfl)
           have h4 : At w [(n2, 23, splice (dc (List.replicate 32 0)) 0 (dc (cutL D m))), (n1, 23, dc (cutL D m))] w4 := hA4
           rw [e] at h4; exact h4))
    refine bodyPost_ret (results_cell (by exact Try.results4) hA4 rfl 0 rfl (by rw [dc_length, HL.out]; exact row23)) rfl ⟨rfl, hA4.clear ?_⟩
    have h1 := hA1.size
    intro r hr
    simp only [List.mem_cons, List.not_mem_nil, or_false] at hr
    rcases hr with rfl | rfl <;> simp only <;> omega

/-- the first s bytes, zeros up to k, the rest as it was -/
def zeroed (D : List UInt8) (s k : Nat) : List UInt8 := D.take s ++ List.replicate (k - s) 0 ++ D.drop k
theorem zeroed_start (D : List UInt8) (s : Nat) : zeroed D s s = D := by simp [zeroed]
theorem zeroed_end (D : List UInt8) (s : Nat) (h : D.length = 32) : zeroed D s 32 = D.take s ++ List.replicate (32 - s) 0 := by
  unfold zeroed
  rw [List.drop_of_length_le (by omega)]
  simp
theorem zeroed_length (D : List UInt8) (s k : Nat) (h : D.length = 32) (h1 : s ≤ k) (h2 : k ≤ 32) : (zeroed D s k).length = 32 := by simp [zeroed, h]; omega
theorem set_mid (X Z : List Value) (y v : Value) (k : Nat) (h : X.length = k) : (X ++ y :: Z).set k v = X ++ v :: Z := by subst h; simp
theorem zeroed_step (D : List UInt8) (s k : Nat) (h : D.length = 32) (h1 : s ≤ k) (h2 : k < 32) : (dc (zeroed D s k)).set k (.int .u8 0) = dc (zeroed D s (k + 1)) := by
  have hd : D.drop k = D[k]'(by omega) :: D.drop (k + 1) := List.drop_eq_getElem_cons (by omega)
  have e1 : zeroed D s k = (D.take s ++ List.replicate (k - s) 0) ++ (D[k]'(by omega) :: D.drop (k + 1)) := by rw [← hd]; rfl
  have hl : (D.take s ++ List.replicate (k - s) (0 : UInt8)).length = k := by simp [h]; omega
  have e2 : zeroed D s (k + 1) = (D.take s ++ List.replicate (k - s) 0) ++ (0 :: D.drop (k + 1)) := by
    unfold zeroed
    rw [show k + 1 - s = (k - s) + 1 by omega, List.replicate_succ']
    simp
  rw [e1, e2]
  unfold dc
  rw [List.map_append, List.map_append (l₂ := 0 :: _)]
  exact set_mid _ _ _ _ _ (by rw [List.length_map, hl])
theorem kept_big (m : Int) (h : 32 < m) : kept m = 32 := by unfold kept; omega
theorem cutL_big (D : List UInt8) (m : Int) (h : D.length = 32) (hm : 32 < m) : cutL D m = D := by
  unfold cutL
  rw [kept_big m hm, List.take_of_length_le (by omega)]
  simp

set_option maxHeartbeats 2000000 in
theorem refcut_any (D : List UInt8) (m : Int) (w : World) (hD : D.length = 32) :
    Calls Try.prog 5 #[.agg (dc D).toArray, .int .i64 m] w fun e w' => e = .returned (.agg (dc (cutL D m)).toArray) ∧ At w [] w' := by
  have hA0 := At.refl w
  have HD := Lib.hid hD
  have HL := Lib.hid (cutL_length D m hD)
  by_cases hbig : 32 < m
  · have HB := Lib.hid (cutL_big D m hD hbig)
    clear hD
    go_enter Try.func5, Try.ntmps5
    go_wp2_with (first
      | (with_reducible refine at_box rfl ?_
         refine wpList_plain rfl (fun _ hK => wp_box (v := .agg (dc D).toArray) rfl hA0 rfl (fun n1 w1 hn1 hA1 => hK _ _ ?_)); clear hK
         replace hA1 : At w [(n1, 23, dc D)] w1 := hA1)
      | (with_reducible refine at_alloc rfl ?_
         refine wpList_plain rfl (fun _ hK => wp_alloc rfl hA1 zero23 (fun n2 w2 hn2 hA2 => hK _ _ ?_)); clear hK
         replace hA2 : At w [(n2, 23, dc (List.replicate 32 0)), (n1, 23, dc D)] w2 := hA2))
    refine wp_loop_once ?_
    go_wp2_with (first
      | (with_reducible refine at_load rfl ?_
         refine wpList_plain rfl (fun _ hK => wp_loadRow (off := 0) rfl hA2 rfl 1 rfl row23 (by rw [dc_length, HD.out]; omega) (hK _ _ ?_)); clear hK
         rw [dc_take D _ rfl HD.out])
      | (with_reducible refine at_store rfl ?_
         refine wpList_plain rfl (fun _ hK => wp_storeRow (off := 0) (new := (dc D).toArray) rfl hA2 rfl rfl 0 rfl (by rw [List.size_toArray, dc_length, dc_length, HD.out]; decide) (dc_one _) (by rw [size23, List.size_toArray, dc_length, HD.out]) (fun w4 hA4 => hK _ _ ?_)); clear hK
         replace hA4 : At w [(n2, 23, dc D), (n1, 23, dc D)] w4 := by
           have e : splice (dc (List.replicate 32 0)) 0 (dc D) = dc D := splice_all _ _ (by rw [dc_length, dc_length, HD.out]; rfl)
           have h4 : At w [(n2, 23, splice (dc (List.replicate 32 0)) 0 (dc D)), (n1, 23, dc D)] w4 := hA4
           rw [e] at h4; exact h4))
    refine bodyPost_ret (results_cell Try.results5 hA4 rfl 0 rfl (by rw [dc_length, HD.out]; exact row23)) rfl ⟨by rw [HB.out], hA4.clear ?_⟩
    have h1 := hA1.size
    intro r hr
    simp only [List.mem_cons, List.not_mem_nil, or_false] at hr
    rcases hr with rfl | rfl <;> simp only <;> omega
  · obtain ⟨s, hs⟩ : ∃ s : Nat, (s : Int) = max m 1 := ⟨(max m 1).toNat, by omega⟩
    have hs1 : 1 ≤ s := by omega
    have hs2 : s ≤ 32 := by omega
    have hk : kept m = s := by unfold kept; omega
    have HE := Lib.hid (show dc (zeroed D s 32) = dc (cutL D m) by rw [zeroed_end D s hD]; unfold cutL; rw [hk])
    have HS := Lib.hid (zeroed_start D s)
    have HST := Lib.hid (fun k h1 h2 => zeroed_step D s k hD h1 h2)
    have HZL := Lib.hid (fun k h1 h2 => zeroed_length D s k hD h1 h2)
    have cases2 : m < 1 ∧ (s : Int) = 1 ∨ 1 ≤ m ∧ (s : Int) = m := by omega
    have Hs := Lib.hid hs
    clear hD hk hs
    rcases cases2 with ⟨hm, he⟩ | ⟨hm, he⟩
    all_goals
      have He := Lib.hid he
      clear he
      go_enter Try.func5, Try.ntmps5
      go_wp2_with (first
        | (with_reducible refine at_box rfl ?_
           refine wpList_plain rfl (fun _ hK => wp_box (v := .agg (dc D).toArray) rfl hA0 rfl (fun n1 w1 hn1 hA1 => hK _ _ ?_)); clear hK
           replace hA1 : At w [(n1, 23, dc D)] w1 := hA1)
        | (with_reducible refine at_alloc rfl ?_
           refine wpList_plain rfl (fun _ hK => wp_alloc rfl hA1 zero23 (fun n2 w2 hn2 hA2 => hK _ _ ?_)); clear hK
           replace hA2 : At w [(n2, 23, dc (List.replicate 32 0)), (n1, 23, dc D)] w2 := hA2))
      go_loopw [5] (fun i wr => ∃ k : Nat, s ≤ k ∧ k ≤ 32 ∧ i = .int .i64 k ∧ At w [(n2, 23, dc (List.replicate 32 0)), (n1, 23, dc (zeroed D s k))] wr) (fun i _ => 32 - (intOf i).toNat)
      case atStart => exact ⟨s, Nat.le_refl _, hs2, by rw [He.out], by rw [HS.out]; exact hA2⟩
      case round =>
        obtain ⟨k, hk1, hk2, rfl, hAr⟩ := hrel
        by_cases hlt : k < 32
        · go_wp2_with (
            (with_reducible refine at_store rfl ?_
             refine wpList_plain rfl (fun _ hK => wp_store1 (off := k) rfl hAr (by simp [Act.eval]) (v := .int .u8 0) rfl 1 rfl (by rw [dc_length, HZL.out k hk1 hk2]; exact hlt) rfl size5 (fun w4 hA4 => hK _ _ ?_)); clear hK
             replace hA4 : At w [(n2, 23, dc (List.replicate 32 0)), (n1, 23, dc (zeroed D s (k + 1)))] w4 := by
               rw [← HST.out k hk1 hlt]; exact hA4))
          go_roundw
          case rel => exact ⟨k + 1, by omega, by omega, by go_num, hA4⟩
          case measure => simp [intOf]; omega
        · obtain rfl : k = 32 := by omega
          replace hAr : At w [(n2, 23, dc (List.replicate 32 0)), (n1, 23, dc (cutL D m))] wr := by rw [← HE.out]; exact hAr
          go_wp2_with (first
            | (with_reducible refine at_load rfl ?_
               refine wpList_plain rfl (fun _ hK => wp_loadRow (off := 0) rfl hAr rfl 1 rfl row23 (by rw [dc_length, HL.out]; omega) (hK _ _ ?_)); clear hK
               rw [dc_take (cutL D m) _ rfl HL.out])
            | (with_reducible refine at_store rfl ?_
               refine wpList_plain rfl (fun _ hK => wp_storeRow (off := 0) (new := (dc (cutL D m)).toArray) rfl hAr rfl rfl 0 rfl (by rw [List.size_toArray, dc_length, dc_length, HL.out]; decide) (dc_one _) (by rw [size23, List.size_toArray, dc_length, HL.out]) (fun w4 hA4 => hK _ _ ?_)); clear hK
               replace hA4 : At w [(n2, 23, dc (cutL D m)), (n1, 23, dc (cutL D m))] w4 := by
                 have e : splice (dc (List.replicate 32 0)) 0 (dc (cutL D m)) = dc (cutL D m) := splice_all _ _ (by rw [dc_length, dc_length, HL.out]; rfl)
                 have h4 : At w [(n2, 23, splice (dc (List.replicate 32 0)) 0 (dc (cutL D m))), (n1, 23, dc (cutL D m))] w4 := hA4
                 rw [e] at h4; exact h4))
          refine bodyPost_ret (results_cell Try.results5 hA4 rfl 0 rfl (by rw [dc_length, HL.out]; exact row23)) rfl ⟨rfl, hA4.clear ?_⟩
          have h1 := hA1.size
          intro r hr
          simp only [List.mem_cons, List.not_mem_nil, or_false] at hr
          rcases hr with rfl | rfl <;> simp only <;> omega

theorem kept_min (a b : Int) : kept (min a b) = min (kept a) (kept b) := by unfold kept; omega
theorem cutL_cutL (D : List UInt8) (a b : Int) (h : D.length = 32) : cutL (cutL D a) b = cutL D (min a b) := by
  have ha := kept_le a
  have hb := kept_le b
  unfold cutL
  rw [kept_min]
  generalize kept a = p at *
  generalize kept b = q at *
  apply List.ext_getElem?
  intro i
  simp only [List.getElem?_append, List.getElem?_take, List.length_take, h, List.getElem?_replicate, List.length_append, List.length_replicate]
  repeat' split
  all_goals first | rfl | omega | (congr 1; omega)

theorem guard23 : Try.prog.eqGuardType Try.prog.depth 23 = false := by kernel_rfl
theorem same_eq (X : List UInt8) : Value.bool (decide (X = X)) = .bool true := by simp

set_option maxHeartbeats 4000000 in
theorem walk (D : List UInt8) (p q : Int) (hD : D.length = 32) (w : World) :
    Calls Try.prog 3 #[.agg (dc D).toArray, .int .i64 p, .int .i64 q] w fun e w' => e = .returned (.bool true) ∧ At w [] w' := by
  have hA0 := At.refl w
  have HD := Lib.hid hD
  have HL := Lib.hid (fun m => cutL_length D m hD)
  have C := Lib.hid (fun m w => cut_any D m w hD)
  have R := Lib.hid (fun m w => refcut_any D m w hD)
  by_cases hm : q < p
  · have C2 := Lib.hid (fun w => show Calls Try.prog 4 #[.agg (dc (cutL D p)).toArray, .int .i64 q] w (fun e w' => e = .returned (.agg (dc (cutL D q)).toArray) ∧ At w [] w') from by
      have h := cut_any (cutL D p) q w (cutL_length D p hD)
      rw [cutL_cutL D p q hD, Int.min_eq_right (by omega)] at h
      exact h)
    clear hD
    go_enter Try.func3, Try.ntmps3
    go_wp2_with (first
      | (with_reducible refine at_box rfl ?_
         refine wpList_plain rfl (fun _ hK => wp_box (v := .agg (dc D).toArray) rfl hA0 rfl (fun n1 w1 hn1 hA1 => hK _ _ ?_)); clear hK
         replace hA1 : At w [(n1, 23, dc D)] w1 := hA1)
      | (with_reducible refine at_load rfl ?_
         refine wpList_plain rfl (fun _ hK => wp_loadRow (off := 0) rfl hA1 rfl 0 rfl row23 (by rw [dc_length, HD.out]; omega) (hK _ _ ?_)); clear hK
         rw [dc_take D _ rfl HD.out])
      | (go_at_call 4
         with_reducible refine (C.out _ _).mono ?_
         rintro e w2 ⟨rfl, hc⟩
         have hA2 := hA1.then0 hc
         clear hc)
      | (with_reducible refine at_alloc rfl ?_
         refine wpList_plain rfl (fun _ hK => wp_alloc rfl hA2 zero23 (fun n2 w3 hn2 hA3 => hK _ _ ?_)); clear hK
         replace hA3 : At w [(n2, 23, dc (List.replicate 32 0)), (n1, 23, dc D)] w3 := hA3)
      | (with_reducible refine at_store rfl ?_
         refine wpList_plain rfl (fun _ hK => wp_storeRow (off := 0) (new := (dc (cutL D p)).toArray) rfl hA3 rfl rfl 0 rfl (by rw [List.size_toArray, dc_length, dc_length, HL.out]; decide) (dc_one _) (by rw [size23, List.size_toArray, dc_length, HL.out]) (fun w4 hA4 => hK _ _ ?_)); clear hK
         replace hA4 : At w [(n2, 23, dc (cutL D p)), (n1, 23, dc D)] w4 := by
           have e : splice (dc (List.replicate 32 0)) 0 (dc (cutL D p)) = dc (cutL D p) := splice_all _ _ (by rw [dc_length, dc_length, HL.out]; rfl)
           have h4 : At w [(n2, 23, splice (dc (List.replicate 32 0)) 0 (dc (cutL D p))), (n1, 23, dc D)] w4 := hA4
           rw [e] at h4; exact h4)
      | (with_reducible refine at_load rfl ?_
         refine wpList_plain rfl (fun _ hK => wp_loadRow (off := 0) rfl hA4 rfl 0 rfl row23 (by rw [dc_length, HL.out]; omega) (hK _ _ ?_)); clear hK
         rw [dc_take (cutL D p) _ rfl (HL.out p)])
      | (go_at_call 4
         with_reducible refine (C2.out _).mono ?_
         rintro e w5 ⟨rfl, hc⟩
         have hA5 := hA4.then0 hc
         clear hc)
      | (with_reducible refine at_alloc rfl ?_
         refine wpList_plain rfl (fun _ hK => wp_alloc rfl hA5 zero23 (fun n3 w6 hn3 hA6 => hK _ _ ?_)); clear hK
         replace hA6 : At w [(n3, 23, dc (List.replicate 32 0)), (n2, 23, dc (cutL D p)), (n1, 23, dc D)] w6 := hA6)
      | (with_reducible refine at_store rfl ?_
         refine wpList_plain rfl (fun _ hK => wp_storeRow (off := 0) (new := (dc (cutL D q)).toArray) rfl hA6 rfl rfl 0 rfl (by rw [List.size_toArray, dc_length, dc_length, HL.out]; decide) (dc_one _) (by rw [size23, List.size_toArray, dc_length, HL.out]) (fun w7 hA7 => hK _ _ ?_)); clear hK
         replace hA7 : At w [(n3, 23, dc (cutL D q)), (n2, 23, dc (cutL D p)), (n1, 23, dc D)] w7 := by
           have e : splice (dc (List.replicate 32 0)) 0 (dc (cutL D q)) = dc (cutL D q) := splice_all _ _ (by rw [dc_length, dc_length, HL.out]; rfl)
           have h4 : At w [(n3, 23, splice (dc (List.replicate 32 0)) 0 (dc (cutL D q))), (n2, 23, dc (cutL D p)), (n1, 23, dc D)] w7 := hA7
           rw [e] at h4; exact h4))
    refine wp_region_plan 19 [3, 9, 16, 19] [0,1,2,3,4,5,6,7,8,9,10,11,12,13,14,15,16,17,18,19] (At w [(n3, 23, dc (cutL D q)), (n2, 23, dc (cutL D p)), (n1, 23, dc D)]) (by kernel_rfl) (by kernel_rfl) hA7.drew ?_
    have hA8 := hA7.drew
    haveI : Nonempty { x : World // At w [(n3, 23, dc (cutL D q)), (n2, 23, dc (cutL D p)), (n1, 23, dc D)] x } := ⟨⟨_, hA8⟩⟩
    generalize w7.drew = w8 at *
    refine plan_q rfl rfl rfl _ (fun x hx => run_loadAll_at rfl hx rfl 1 rfl (by rw [dc_length, HL.out]; exact row23)) ?_
    refine plan_q rfl rfl rfl _ (fun x hx => run_loadAll_at rfl hx rfl 2 rfl (by rw [dc_length, HD.out]; exact row23)) ?_
    refine plan_pure rfl rfl (fun K hK => ?_); go_simp; refine hK _ ?_; clear hK K
    refine plan_l rfl rfl rfl (fun K hK => ?_); go_simp
    with_reducible refine (R.out _ _).mono ?_
    rintro e w9 ⟨rfl, hc⟩
    have hA9 := hA8.then0 hc
    clear hc
    go_simp
    refine hK _ _ (fun _ => hA9) ?_; clear hK K
    refine plan_q rfl rfl rfl (.bool true) (fun x _ => by rw [run_op_eql_bytes rfl 5 32 _ _ rfl rfl Try.underlying23 Try.underlying5 size5 (HL.out _) (HL.out _) guard23]; simp) ?_
    refine plan_pure rfl rfl (fun K hK => ?_); go_simp; refine hK _ ?_; clear hK K
    refine plan_q rfl rfl rfl _ (fun x hx => run_loadAll_at rfl hx rfl 0 rfl (by rw [dc_length, HL.out]; exact row23)) ?_
    refine plan_q rfl rfl rfl _ (fun x hx => run_loadAll_at rfl hx rfl 2 rfl (by rw [dc_length, HD.out]; exact row23)) ?_
    refine plan_pure rfl rfl (fun K hK => ?_); go_simp; refine hK _ ?_; clear hK K
    refine plan_l rfl rfl rfl (fun K hK => ?_); go_simp
    with_reducible refine (R.out _ _).mono ?_
    rintro e w10 ⟨rfl, hc⟩
    have hA10 := hA9.then0 hc
    clear hc
    go_simp
    refine hK _ _ (fun _ => hA10) ?_; clear hK K
    refine plan_q rfl rfl rfl (.bool true) (fun x _ => by rw [run_op_eql_bytes rfl 5 32 _ _ rfl rfl Try.underlying23 Try.underlying5 size5 (HL.out _) (HL.out _) guard23]; simp) ?_
    refine plan_pure rfl rfl (fun K hK => ?_); go_simp; refine hK _ ?_; clear hK K
    refine plan_pure rfl rfl (fun K hK => ?_); go_simp; refine hK _ ?_; clear hK K
    refine plan_q rfl rfl rfl _ (fun x hx => run_loadAll_at rfl hx rfl 0 rfl (by rw [dc_length, HL.out]; exact row23)) ?_
    refine plan_q rfl rfl rfl _ (fun x hx => run_loadAll_at rfl hx rfl 2 rfl (by rw [dc_length, HD.out]; exact row23)) ?_
    refine plan_pure rfl rfl (fun K hK => ?_); go_simp; refine hK _ ?_; clear hK K
    refine plan_l rfl rfl rfl (fun K hK => ?_); go_simp
    with_reducible refine (C.out _ _).mono ?_
    rintro e w11 ⟨rfl, hc⟩
    have hA11 := hA10.then0 hc
    clear hc
    go_simp
    refine hK _ _ (fun _ => hA11) ?_; clear hK K
    refine plan_q rfl rfl rfl (.bool true) (fun x _ => by rw [run_op_eql_bytes rfl 5 32 _ _ rfl rfl Try.underlying23 Try.underlying5 size5 (HL.out _) (HL.out _) guard23]; simp) ?_
    refine plan_pure rfl rfl (fun K hK => ?_); go_simp; refine hK _ ?_; clear hK K
    refine plan_l rfl rfl rfl (fun K hK => ?_); go_simp
    refine hK _ _ (fun h => absurd h (by decide)) ?_; clear hK K
    refine plan_end ?_
    go_wp2_with fail
    go_ret
    have h0 := hA1.size
    have h1 := hA2.size
    have h2 := hA5.size
    exact ⟨rfl, hA11.clear (fun r hr => by
      simp only [List.mem_cons, List.not_mem_nil, or_false] at hr
      rcases hr with rfl | rfl | rfl <;> simp only <;> omega)⟩
  · have C2 := Lib.hid (fun w => show Calls Try.prog 4 #[.agg (dc (cutL D p)).toArray, .int .i64 q] w (fun e w' => e = .returned (.agg (dc (cutL D p)).toArray) ∧ At w [] w') from by
      have h := cut_any (cutL D p) q w (cutL_length D p hD)
      rw [cutL_cutL D p q hD, Int.min_eq_left (by omega)] at h
      exact h)
    clear hD
    go_enter Try.func3, Try.ntmps3
    go_wp2_with (first
      | (with_reducible refine at_box rfl ?_
         refine wpList_plain rfl (fun _ hK => wp_box (v := .agg (dc D).toArray) rfl hA0 rfl (fun n1 w1 hn1 hA1 => hK _ _ ?_)); clear hK
         replace hA1 : At w [(n1, 23, dc D)] w1 := hA1)
      | (with_reducible refine at_load rfl ?_
         refine wpList_plain rfl (fun _ hK => wp_loadRow (off := 0) rfl hA1 rfl 0 rfl row23 (by rw [dc_length, HD.out]; omega) (hK _ _ ?_)); clear hK
         rw [dc_take D _ rfl HD.out])
      | (go_at_call 4
         with_reducible refine (C.out _ _).mono ?_
         rintro e w2 ⟨rfl, hc⟩
         have hA2 := hA1.then0 hc
         clear hc)
      | (with_reducible refine at_alloc rfl ?_
         refine wpList_plain rfl (fun _ hK => wp_alloc rfl hA2 zero23 (fun n2 w3 hn2 hA3 => hK _ _ ?_)); clear hK
         replace hA3 : At w [(n2, 23, dc (List.replicate 32 0)), (n1, 23, dc D)] w3 := hA3)
      | (with_reducible refine at_store rfl ?_
         refine wpList_plain rfl (fun _ hK => wp_storeRow (off := 0) (new := (dc (cutL D p)).toArray) rfl hA3 rfl rfl 0 rfl (by rw [List.size_toArray, dc_length, dc_length, HL.out]; decide) (dc_one _) (by rw [size23, List.size_toArray, dc_length, HL.out]) (fun w4 hA4 => hK _ _ ?_)); clear hK
         replace hA4 : At w [(n2, 23, dc (cutL D p)), (n1, 23, dc D)] w4 := by
           have e : splice (dc (List.replicate 32 0)) 0 (dc (cutL D p)) = dc (cutL D p) := splice_all _ _ (by rw [dc_length, dc_length, HL.out]; rfl)
           have h4 : At w [(n2, 23, splice (dc (List.replicate 32 0)) 0 (dc (cutL D p))), (n1, 23, dc D)] w4 := hA4
           rw [e] at h4; exact h4)
      | (with_reducible refine at_load rfl ?_
         refine wpList_plain rfl (fun _ hK => wp_loadRow (off := 0) rfl hA4 rfl 0 rfl row23 (by rw [dc_length, HL.out]; omega) (hK _ _ ?_)); clear hK
         rw [dc_take (cutL D p) _ rfl (HL.out p)])
      | (go_at_call 4
         with_reducible refine (C2.out _).mono ?_
         rintro e w5 ⟨rfl, hc⟩
         have hA5 := hA4.then0 hc
         clear hc)
      | (with_reducible refine at_alloc rfl ?_
         refine wpList_plain rfl (fun _ hK => wp_alloc rfl hA5 zero23 (fun n3 w6 hn3 hA6 => hK _ _ ?_)); clear hK
         replace hA6 : At w [(n3, 23, dc (List.replicate 32 0)), (n2, 23, dc (cutL D p)), (n1, 23, dc D)] w6 := hA6)
      | (with_reducible refine at_store rfl ?_
         refine wpList_plain rfl (fun _ hK => wp_storeRow (off := 0) (new := (dc (cutL D p)).toArray) rfl hA6 rfl rfl 0 rfl (by rw [List.size_toArray, dc_length, dc_length, HL.out]; decide) (dc_one _) (by rw [size23, List.size_toArray, dc_length, HL.out]) (fun w7 hA7 => hK _ _ ?_)); clear hK
         replace hA7 : At w [(n3, 23, dc (cutL D p)), (n2, 23, dc (cutL D p)), (n1, 23, dc D)] w7 := by
           have e : splice (dc (List.replicate 32 0)) 0 (dc (cutL D p)) = dc (cutL D p) := splice_all _ _ (by rw [dc_length, dc_length, HL.out]; rfl)
           have h4 : At w [(n3, 23, splice (dc (List.replicate 32 0)) 0 (dc (cutL D p))), (n2, 23, dc (cutL D p)), (n1, 23, dc D)] w7 := hA7
           rw [e] at h4; exact h4))
    refine wp_region_plan 19 [3, 9, 16, 19] [0,1,2,3,4,5,6,7,8,9,10,11,12,13,14,15,16,17,18,19] (At w [(n3, 23, dc (cutL D p)), (n2, 23, dc (cutL D p)), (n1, 23, dc D)]) (by kernel_rfl) (by kernel_rfl) hA7.drew ?_
    have hA8 := hA7.drew
    haveI : Nonempty { x : World // At w [(n3, 23, dc (cutL D p)), (n2, 23, dc (cutL D p)), (n1, 23, dc D)] x } := ⟨⟨_, hA8⟩⟩
    generalize w7.drew = w8 at *
    refine plan_q rfl rfl rfl _ (fun x hx => run_loadAll_at rfl hx rfl 1 rfl (by rw [dc_length, HL.out]; exact row23)) ?_
    refine plan_q rfl rfl rfl _ (fun x hx => run_loadAll_at rfl hx rfl 2 rfl (by rw [dc_length, HD.out]; exact row23)) ?_
    refine plan_pure rfl rfl (fun K hK => ?_); go_simp; refine hK _ ?_; clear hK K
    refine plan_l rfl rfl rfl (fun K hK => ?_); go_simp
    with_reducible refine (R.out _ _).mono ?_
    rintro e w9 ⟨rfl, hc⟩
    have hA9 := hA8.then0 hc
    clear hc
    go_simp
    refine hK _ _ (fun _ => hA9) ?_; clear hK K
    refine plan_q rfl rfl rfl (.bool true) (fun x _ => by rw [run_op_eql_bytes rfl 5 32 _ _ rfl rfl Try.underlying23 Try.underlying5 size5 (HL.out _) (HL.out _) guard23]; simp) ?_
    refine plan_pure rfl rfl (fun K hK => ?_); go_simp; refine hK _ ?_; clear hK K
    refine plan_q rfl rfl rfl _ (fun x hx => run_loadAll_at rfl hx rfl 0 rfl (by rw [dc_length, HL.out]; exact row23)) ?_
    refine plan_q rfl rfl rfl _ (fun x hx => run_loadAll_at rfl hx rfl 2 rfl (by rw [dc_length, HD.out]; exact row23)) ?_
    refine plan_pure rfl rfl (fun K hK => ?_); go_simp; refine hK _ ?_; clear hK K
    refine plan_l rfl rfl rfl (fun K hK => ?_); go_simp
    with_reducible refine (R.out _ _).mono ?_
    rintro e w10 ⟨rfl, hc⟩
    have hA10 := hA9.then0 hc
    clear hc
    go_simp
    refine hK _ _ (fun _ => hA10) ?_; clear hK K
    refine plan_q rfl rfl rfl (.bool true) (fun x _ => by rw [run_op_eql_bytes rfl 5 32 _ _ rfl rfl Try.underlying23 Try.underlying5 size5 (HL.out _) (HL.out _) guard23]; simp) ?_
    refine plan_pure rfl rfl (fun K hK => ?_); go_simp; refine hK _ ?_; clear hK K
    refine plan_pure rfl rfl (fun K hK => ?_); go_simp; refine hK _ ?_; clear hK K
    refine plan_q rfl rfl rfl _ (fun x hx => run_loadAll_at rfl hx rfl 0 rfl (by rw [dc_length, HL.out]; exact row23)) ?_
    refine plan_q rfl rfl rfl _ (fun x hx => run_loadAll_at rfl hx rfl 2 rfl (by rw [dc_length, HD.out]; exact row23)) ?_
    refine plan_pure rfl rfl (fun K hK => ?_); go_simp; refine hK _ ?_; clear hK K
    refine plan_l rfl rfl rfl (fun K hK => ?_); go_simp
    with_reducible refine (C.out _ _).mono ?_
    rintro e w11 ⟨rfl, hc⟩
    have hA11 := hA10.then0 hc
    clear hc
    go_simp
    refine hK _ _ (fun _ => hA11) ?_; clear hK K
    refine plan_q rfl rfl rfl (.bool true) (fun x _ => by rw [run_op_eql_bytes rfl 5 32 _ _ rfl rfl Try.underlying23 Try.underlying5 size5 (HL.out _) (HL.out _) guard23]; simp) ?_
    refine plan_pure rfl rfl (fun K hK => ?_); go_simp; refine hK _ ?_; clear hK K
    refine plan_l rfl rfl rfl (fun K hK => ?_); go_simp
    refine hK _ _ (fun h => absurd h (by decide)) ?_; clear hK K
    refine plan_end ?_
    go_wp2_with fail
    go_ret
    have h0 := hA1.size
    have h1 := hA2.size
    have h2 := hA5.size
    exact ⟨rfl, hA11.clear (fun r hr => by
      simp only [List.mem_cons, List.not_mem_nil, or_false] at hr
      rcases hr with rfl | rfl | rfl <;> simp only <;> omega)⟩

theorem own : ownKnob Try.prog.godebug = none := by kernel_rfl
theorem laidOut : laidOutB Try.prog = true := by kernel_rfl
theorem cells5 : Try.prog.cellsOf 5 = 1 := by kernel_rfl
theorem cells23 : Try.prog.cellsOf 23 = 32 := by kernel_rfl

set_option maxRecDepth 100000 in
theorem lifted (os : Os) (started : os.Started) (H : Type) (enc : TypeId × Value → H) :
    ReturnsInHanded {} Try.checked os 3 .any (Rows.digestCutsSpec.pre6 enc Try.prog Try.f3 Rows.digestCutsRow.domain false) (Rows.digestCutsSpec.post enc Try.prog Try.f3 false true false false) := by
  refine returnsInHanded_of_change (C := Try.checked) own started (by kernel_rfl) Try.func3
    (ChangeSpec.witness6 (enc := enc) (C := Try.checked) false ⟨#[], #[.agg (dc (List.replicate 32 0)).toArray, .int .i64 0, .int .i64 0], []⟩ 8 (by kernel_rfl) (by kernel_rfl) (by kernel_rfl) (by kernel_rfl)) ?_
  intro W base args ds gs before hval0 hW hcnd _
  have hval : ∀ (j : Nat) t v, Try.f3.params[j]? = some t → args[j]? = some v → Value.okWide Try.prog W .any base t v := hval0
  have hW' := hW
  obtain ⟨p, q, hA0, hV, rfl, hfz, hnd⟩ := hW
  have hA : DataW.TrodAll enc Try.prog W 0 (fun _ => true) true Try.f3.params.toList args.toList ds p := hA0
  rw [Try.params3] at hA hval
  obtain ⟨v0, vs0, d0, ds0, p0, q0, hargs, rfl, rfl, h0, r0⟩ := trodAll_cons hA
  obtain ⟨v1, vs1, d1, ds1, p1, q1, rfl, rfl, rfl, h1, r1⟩ := trodAll_cons r0
  obtain ⟨v2, vs2, d2, ds2, p2, q2, rfl, rfl, rfl, h2, r2⟩ := trodAll_cons r1
  obtain ⟨rfl, rfl, rfl⟩ := trodAll_nil r2
  obtain rfl : args = #[v0, v1, v2] := by cases args; simp_all
  obtain ⟨rfl, rfl⟩ := trodVars_none hV
  have k0 := h0
  have lt0 : ∀ x ∈ p0, x.block < W.heap.size := by obtain ⟨m, hm⟩ := k0; exact DataW.trod_lt m _ _ _ hm
  obtain ⟨D, rfl, hD⟩ := open_bytes_array Try.underlying23 Try.underlying5 cells5 cells23 (hval 0 23 v0 rfl rfl) h0
  obtain ⟨a1, rfl, rfl, rfl, w1⟩ := open_int Try.underlying3 (hval 1 3 v1 rfl rfl) h1
  obtain ⟨a2, rfl, rfl, rfl, w2⟩ := open_int Try.underlying3 (hval 2 3 v2 rfl rfl) h2
  clear hA0 hval0
  refine (walk D a1 a2 hD W).mono fun e W' ⟨he, hat⟩ => ?_
  have bel : Below W.heap.size W W' := hat.below (fun _ h => by cases h)
  subst he
  exact ⟨_, rfl, _, _, _, [], _, [], hW', trodAll_mk1 (shut_bool Try.underlying4 _), (trodAll_cons_mk (Below.trod laidOut (by kernel_rfl) (of_decide_eq_true (by kernel_rfl)) k0 bel lt0) (trodAll_cons_mk (shut_int Try.underlying3 w1) (trodAll_cons_mk (shut_int Try.underlying3 w2) trodAll_mk0))), rfl, bel.frame _, fun h => by cases h⟩

theorem over : Rows.digestCutsRow.holds Try.pinned (OpenSpec.ofChange Rows.digestCutsSpec) :=
  OpenClaim.holds_of_wide 3 Try.f3 rfl rfl rfl rfl rfl rfl rfl ⟨rfl, rfl, rfl, rfl, rfl⟩ rfl rfl rfl rfl rfl (by kernel_rfl) Try.func3 (by kernel_rfl)
    (of_decide_eq_true (by kernel_rfl)) (by unfold Func.isWrapper; first | (rw [if_pos (by decide +kernel)]; kernel_rfl) | (rw [if_neg (by decide +kernel)]; exact ⟨rfl, rfl⟩))
    (fun os started H enc _ => lifted os started H enc)

theorem proved : Rows.DigestCutsSaid := over
end Go.Proofs.Ytppmhlkonemebaa.digestCuts
