/- The walks of Leaf, Branch, Empty. -/
import Derived.Test.YtppmhlkonemebaaDoorOf
namespace Go.Proofs.YtppmhlkonemebaaDoor
open Go.RowKit Go.Dk

theorem parts_nil (w : World) : Parts w none [] := ⟨fun h => absurd rfl h, fun _ _ _ h => by cases h⟩
def leafL (width : Int) (l : List UInt8) : List UInt8 := cutL (sha (0 :: l)) width
def branchL (width : Int) (X Y : List UInt8) : List UInt8 := cutL (sha (4 :: (X ++ Y))) width
def emptyL (width : Int) : Nat → List UInt8
  | 0 => cutL (sha [5]) width
  | k + 1 => branchL width (emptyL width k) (emptyL width k)
theorem emptyL_length (width : Int) (k : Nat) : (emptyL width k).length = 32 := by cases k <;> exact cutL_length _ _ (sha_length _)

set_option maxRecDepth 100000 in
set_option maxHeartbeats 1000000 in
theorem leaf_any (w : World) (width : Int) (X : Option Addr) (l : List UInt8) (c n : Nat) (hn : n = l.length) (hc : n ≤ c) (hB : Bts w X l) (hI : In w X) (hl : l.length < 140737488355328) (hT : Tab w) :
    Calls Tryd.prog 33 #[.int .i64 width, .slice X n c] w fun e w' => e = .returned (.agg (dc (leafL width l)).toArray) ∧ At w [] w' := by
  have hA0 := At.refl w
  have hpos : 0 < w.heap.size := hT.lt
  subst hn
  have Hflat : Hid (flat [(X, c, l)] = l) := Lib.hid (by simp [flat])
  obtain ⟨C, HCe⟩ : ∃ C, Hid (C = leafL width l) := ⟨_, rfl⟩
  have HCl : Hid (C.length = 32) := Lib.hid (by rw [HCe.out]; exact cutL_length _ _ (sha_length _))
  have HC : Hid (cutL (sha (0 :: flat [(X, c, l)])) width = C) := Lib.hid (by rw [Hflat.out, HCe.out]; rfl)
  obtain ⟨Z0, HZ0⟩ : ∃ Z, Hid (Z = dc (List.replicate 32 0)) := ⟨_, rfl⟩
  have Hd : Hid ((dc C).length = 32) := Lib.hid (by rw [dc_length, HCl.out])
  have Hz4 : Hid (splice Z0 0 (dc C) = dc C) := Lib.hid (splice_all' _ _ (by rw [Hd.out, HZ0.out]; rfl))
  have Hz2 : Hid ((Tryd.prog.info? 36).map (·.size) = some (dc C).toArray.size) := Lib.hid (by rw [size36, List.size_toArray, Hd.out])
  have Hz1 : Hid (0 + (dc C).toArray.size ≤ Z0.length) := Lib.hid (by rw [List.size_toArray, Hd.out, HZ0.out]; exact Nat.le_of_eq (by rfl))
  have Hz3 : Hid (∀ v ∈ (dc C).toArray, v.oneCell' = true) := Lib.hid (fun v hv => dc_one _ v (by simpa using hv))
  go_enter Tryd.func33, Tryd.ntmps33
  go_wp2_with (first
    | (with_reducible refine at_alloc rfl ?_
       refine wpList_plain rfl (fun _ hK => wp_alloc rfl hA0 zero36 (fun b2 w1 hb2 hA1 => hK _ _ ?_)); clear hK
       replace hA1 : At w [(b2, 36, Z0)] w1 := by rw [HZ0.out]; exact hA1)
    | (with_reducible refine at_buildSlice rfl ?_
       refine wpList_plain rfl (fun _ hK => wp_bs1 rfl hA1 (v := .slice X l.length c) rfl (by exact build_part _ _ _ _) (fun b3 w2 hb3 hA2 => hK _ _ ?_)); clear hK
       replace hA2 : At w [(b3, 24, [.slice X l.length c]), (b2, 36, Z0)] w2 := hA2
       have hs1 := hA1.size
       have q2 : b2 < b3 := by have := hA1.lt (k := 0) rfl; omega
       have hP : Parts w2 (some ⟨b3, 0, none⟩) [(X, c, l)] := by
         refine ⟨fun _ => ⟨b3, 0, rfl, hA2.lt (k := 0) rfl, fun i A' c' l' h => ?_⟩, fun A' c' l' h => ?_⟩
         · cases i with
           | zero =>
             obtain ⟨rfl, rfl, rfl⟩ : X = A' ∧ c = c' ∧ l = l' := by simpa using h
             exact hA2.cell (k := 0) rfl 0
           | succ i => simp at h
         · obtain ⟨rfl, rfl, rfl⟩ : A' = X ∧ c' = c ∧ l' = l := by simpa using h
           refine ⟨hc, hB.fresh hA2 ?_, hI.size hA2.size⟩
           intro r hr; simp only [List.mem_cons, List.not_mem_nil, or_false] at hr; rcases hr with h | h <;> subst h <;> simp only <;> omega)
    | (go_at_call 51
       go_loud (with_reducible refine (of_any w2 width 0 0 rfl (some ⟨b3, 0, none⟩) [(X, c, l)] 1 1 rfl hP (by rw [Hflat.out]; exact hl) (by decide) (hT.at_ hA2 (by simp; omega))).mono ?_
                rintro e' w3 ⟨rfl, hc3⟩
                have hA3 := hA2.then0 hc3
                rw [HC.out]
                clear hc3))
    | (with_reducible refine at_store rfl ?_
       refine wpList_plain rfl (fun _ hK => wp_storeRow (off := 0) (new := (dc C).toArray) rfl hA3 rfl rfl 1 rfl Hz1.out Hz3.out Hz2.out (fun w8 hA8 => hK _ _ ?_)); clear hK
       replace hA8 : At w [(b3, 24, [.slice X l.length c]), (b2, 36, splice Z0 0 (dc C))] w8 := hA8
       rw [Hz4.out] at hA8))
  refine bodyPost_ret (results_cell Tryd.results33 hA8 rfl 1 rfl (by rw [Hd.out]; exact row36)) rfl ⟨by rw [HCe.out], hA8.clear (fun r hr => ?_)⟩
  simp only [List.mem_cons, List.not_mem_nil, or_false] at hr
  rcases hr with rfl | rfl <;> simp only <;> omega

set_option maxRecDepth 100000 in
set_option maxHeartbeats 1000000 in
theorem branch_any (w : World) (width : Int) (X Y : List UInt8) (hX : X.length = 32) (hY : Y.length = 32) (hT : Tab w) :
    Calls Tryd.prog 44 #[.int .i64 width, .agg (dc X).toArray, .agg (dc Y).toArray] w fun e w' => e = .returned (.agg (dc (branchL width X Y)).toArray) ∧ At w [] w' := by
  have hA0 := At.refl w
  have hpos : 0 < w.heap.size := hT.lt
  have HX := Lib.hid hX
  have HY := Lib.hid hY
  clear hX hY
  obtain ⟨C, HCe⟩ : ∃ C, Hid (C = branchL width X Y) := ⟨_, rfl⟩
  have HCl : Hid (C.length = 32) := Lib.hid (by rw [HCe.out]; exact cutL_length _ _ (sha_length _))
  obtain ⟨Z0, HZ0⟩ : ∃ Z, Hid (Z = dc (List.replicate 32 0)) := ⟨_, rfl⟩
  have Hd : Hid ((dc C).length = 32) := Lib.hid (by rw [dc_length, HCl.out])
  have Hz4 : Hid (splice Z0 0 (dc C) = dc C) := Lib.hid (splice_all' _ _ (by rw [Hd.out, HZ0.out]; rfl))
  have Hz2 : Hid ((Tryd.prog.info? 36).map (·.size) = some (dc C).toArray.size) := Lib.hid (by rw [size36, List.size_toArray, Hd.out])
  have Hz1 : Hid (0 + (dc C).toArray.size ≤ Z0.length) := Lib.hid (by rw [List.size_toArray, Hd.out, HZ0.out]; exact Nat.le_of_eq (by rfl))
  have Hz3 : Hid (∀ v ∈ (dc C).toArray, v.oneCell' = true) := Lib.hid (fun v hv => dc_one _ v (by simpa using hv))
  go_enter Tryd.func44, Tryd.ntmps44
  go_wp2_with (first
    | (with_reducible refine at_box rfl ?_
       refine wpList_plain rfl (fun _ hK => wp_box (v := .agg (dc X).toArray) rfl hA0 rfl (fun b4 w1 hb4 hA1 => hK _ _ ?_)); clear hK hA0
       replace hA1 : At w [(b4, 36, dc X)] w1 := hA1)
    | (with_reducible refine at_box rfl ?_
       refine wpList_plain rfl (fun _ hK => wp_box (v := .agg (dc Y).toArray) rfl hA1 rfl (fun b5 w2 hb5 hA2 => hK _ _ ?_)); clear hK
       replace hA2 : At w [(b5, 36, dc Y), (b4, 36, dc X)] w2 := hA2)
    | (with_reducible refine at_alloc rfl ?_
       refine wpList_plain rfl (fun _ hK => wp_alloc rfl hA2 zero36 (fun b6 w3 hb6 hA3 => hK _ _ ?_)); clear hK
       replace hA3 : At w [(b6, 36, Z0), (b5, 36, dc Y), (b4, 36, dc X)] w3 := by rw [HZ0.out]; exact hA3))
  have q1 : b4 < b5 := by have := hA1.lt (k := 0) rfl; omega
  have q2 : b5 < b6 := by have := hA2.lt (k := 0) rfl; omega
  have hs1 := hA1.size
  clear hA1 hA2
  have Hflat : Hid (flat [(some ⟨b4, 0, none⟩, 32, X), (some ⟨b5, 0, none⟩, 32, Y)] = X ++ Y) := Lib.hid (by simp [flat])
  have HC : Hid (cutL (sha (4 :: flat [(some ⟨b4, 0, none⟩, 32, X), (some ⟨b5, 0, none⟩, 32, Y)])) width = C) := Lib.hid (by rw [Hflat.out, HCe.out]; rfl)
  have HPt : ∀ (x : World) (b7 : Nat), At w [(b7, 24, [.slice (some ⟨b4, 0, none⟩) 32 32, .slice (some ⟨b5, 0, none⟩) 32 32]), (b6, 36, Z0), (b5, 36, dc Y), (b4, 36, dc X)] x → Parts x (some ⟨b7, 0, none⟩) [(some ⟨b4, 0, none⟩, 32, X), (some ⟨b5, 0, none⟩, 32, Y)] := fun x b7 hA => by
    refine ⟨fun _ => ⟨b7, 0, rfl, hA.lt (k := 0) rfl, fun i A' c' l' h => ?_⟩, fun A' c' l' h => ?_⟩
    · match i with
      | 0 =>
        obtain ⟨rfl, rfl, rfl⟩ : some ⟨b4, 0, none⟩ = A' ∧ 32 = c' ∧ X = l' := by simpa using h
        rw [HX.out]; exact hA.cell (k := 0) rfl 0
      | 1 =>
        obtain ⟨rfl, rfl, rfl⟩ : some ⟨b5, 0, none⟩ = A' ∧ 32 = c' ∧ Y = l' := by simpa using h
        rw [HY.out]; exact hA.cell (k := 0) rfl 1
      | i + 2 => simp at h
    · simp only [List.mem_cons, List.not_mem_nil, or_false, Prod.mk.injEq] at h
      rcases h with ⟨rfl, rfl, rfl⟩ | ⟨rfl, rfl, rfl⟩
      · exact ⟨by rw [HX.out]; decide, Bts.row hA (k := 3) rfl (by rw [List.drop_zero, List.take_of_length_le (by rw [dc_length]; exact Nat.le_refl _)]), fun ad he => by cases he; exact hA.lt (k := 3) rfl⟩
      · exact ⟨by rw [HY.out]; decide, Bts.row hA (k := 2) rfl (by rw [List.drop_zero, List.take_of_length_le (by rw [dc_length]; exact Nat.le_refl _)]), fun ad he => by cases he; exact hA.lt (k := 2) rfl⟩
  haveI : Nonempty { x : World // (fun _ : World => True) x } := ⟨⟨w, trivial⟩⟩
  refine wp_region_plan 5 [3,4,5] [0,1,2,3,4,5] (fun _ : World => True) (by kernel_rfl) (by kernel_rfl) (trivial) ?_
  refine plan_pure rfl rfl (fun K hK => ?_); go_simp; refine hK _ ?_; clear hK K
  refine plan_q rfl rfl rfl (.slice (some ⟨b4, 0, none⟩) 32 32) (fun x hx => run_sliceArr rfl Tryd.underlying36 bk_size5 rfl 0 32 (by exact boundIs_none 0) (by exact boundIs_none 32) (by decide) (by decide) (by rw [sub_zero])) ?_
  refine plan_q rfl rfl rfl (.slice (some ⟨b5, 0, none⟩) 32 32) (fun x hx => run_sliceArr rfl Tryd.underlying36 bk_size5 rfl 0 32 (by exact boundIs_none 0) (by exact boundIs_none 32) (by decide) (by decide) (by rw [sub_zero])) ?_
  refine plan_l rfl rfl rfl (fun K hK => wp_bs2 rfl hA3.drew (v := .slice (some ⟨b4, 0, none⟩) 32 32) (u := .slice (some ⟨b5, 0, none⟩) 32 32) rfl rfl (by exact build_part2 _ _ _ _ _ _ _) (fun b7 w7 hb7 hA7 => hK _ _ (fun _ => trivial) ?_))
  clear hK K
  replace hA7 : At w [(b7, 24, [.slice (some ⟨b4, 0, none⟩) 32 32, .slice (some ⟨b5, 0, none⟩) 32 32]), (b6, 36, Z0), (b5, 36, dc Y), (b4, 36, dc X)] w7 := hA7
  have q7 : b6 < b7 := by have := hA3.drew.lt (k := 0) rfl; omega
  refine plan_l rfl rfl rfl (fun K hK => ?_); go_simp
  with_reducible refine (of_any w7 width 4 4 rfl (some ⟨b7, 0, none⟩) [(some ⟨b4, 0, none⟩, 32, X), (some ⟨b5, 0, none⟩, 32, Y)] 2 2 rfl (HPt w7 b7 hA7) (by rw [Hflat.out, List.length_append, HX.out, HY.out]; decide) (by decide) (hT.at_ hA7 (by simp; omega))).mono ?_
  rintro e' w8 ⟨rfl, hc8⟩
  have hA8 := hA7.then0 hc8
  clear hc8
  rw [HC.out]
  go_simp
  refine hK _ _ (fun _ => trivial) ?_; clear hK K
  refine plan_l rfl rfl rfl (fun K hK => wp_storeRow (off := 0) (new := (dc C).toArray) rfl hA8 rfl rfl 1 rfl Hz1.out Hz3.out Hz2.out (fun w9 hA9 => hK _ _ (fun h => absurd h (by decide)) ?_))
  clear hK K
  replace hA9 : At w [(b7, 24, [.slice (some ⟨b4, 0, none⟩) 32 32, .slice (some ⟨b5, 0, none⟩) 32 32]), (b6, 36, splice Z0 0 (dc C)), (b5, 36, dc Y), (b4, 36, dc X)] w9 := hA9
  rw [Hz4.out] at hA9
  refine plan_end ?_
  go_wp2
  refine bodyPost_ret (results_cell Tryd.results44 hA9 rfl 1 rfl (by rw [Hd.out]; exact row36)) rfl ⟨by rw [HCe.out], hA9.clear (fun r hr => ?_)⟩
  simp only [List.mem_cons, List.not_mem_nil, or_false] at hr
  rcases hr with rfl | rfl | rfl | rfl <;> simp only <;> omega

set_option maxRecDepth 100000 in
set_option maxHeartbeats 1000000 in
theorem empty_any (w : World) (width hi : Int) (k : Nat) (hk : hi = k) (hk2 : k ≤ 256) (hT : Tab w) :
    Calls Tryd.prog 34 #[.int .i64 width, .int .i64 hi] w fun e w' => e = .returned (.agg (dc (emptyL width k)).toArray) ∧ At w [] w' := by
  have hA0 := At.refl w
  have hpos : 0 < w.heap.size := hT.lt
  obtain ⟨C, HCe⟩ : ∃ C, Hid (C = emptyL width 0) := ⟨_, rfl⟩
  have HCl : Hid (C.length = 32) := Lib.hid (by rw [HCe.out]; exact emptyL_length _ _)
  have HC : Hid (cutL (sha (5 :: flat [])) width = C) := Lib.hid (by rw [HCe.out]; rfl)
  obtain ⟨Z0, HZ0⟩ : ∃ Z, Hid (Z = dc (List.replicate 32 0)) := ⟨_, rfl⟩
  have Hd : Hid ((dc C).length = 32) := Lib.hid (by rw [dc_length, HCl.out])
  have Hz4 : Hid (splice Z0 0 (dc C) = dc C) := Lib.hid (splice_all' _ _ (by rw [Hd.out, HZ0.out]; rfl))
  have Hz2 : Hid ((Tryd.prog.info? 36).map (·.size) = some (dc C).toArray.size) := Lib.hid (by rw [size36, List.size_toArray, Hd.out])
  have Hz1 : Hid (0 + (dc C).toArray.size ≤ Z0.length) := Lib.hid (by rw [List.size_toArray, Hd.out, HZ0.out]; exact Nat.le_of_eq (by rfl))
  have Hz3 : Hid (∀ v ∈ (dc C).toArray, v.oneCell' = true) := Lib.hid (fun v hv => dc_one _ v (by simpa using hv))
  have Hk := Lib.hid hk
  have hb1 : 0 ≤ hi ∧ hi ≤ 256 := by omega
  clear hk
  go_enter Tryd.func34, Tryd.ntmps34
  go_wp2_with (first
    | (with_reducible refine at_alloc rfl ?_
       refine wpList_plain rfl (fun _ hK => wp_alloc rfl hA0 zero36 (fun b2 w1 hb2 hA1 => hK _ _ ?_)); clear hK hA0
       replace hA1 : At w [(b2, 36, Z0)] w1 := by rw [HZ0.out]; exact hA1)
    | (go_at_call 51
       go_loud (with_reducible refine (of_any w1 width 5 5 rfl none [] 0 0 rfl (parts_nil _) (by simp [flat]) (by decide) (hT.at_ hA1 (by simp; omega))).mono ?_
                rintro e' w3 ⟨rfl, hc3⟩
                have hA2 := hA1.then0 hc3
                rw [HC.out]
                clear hc3))
    | (with_reducible refine at_alloc rfl ?_
       refine wpList_plain rfl (fun _ hK => wp_alloc rfl hA2 zero36 (fun b3 w4 hb3 hA3 => hK _ _ ?_)); clear hK
       replace hA3 : At w [(b3, 36, Z0), (b2, 36, Z0)] w4 := by
         have h : At w [(b3, 36, dc (List.replicate 32 0)), (b2, 36, Z0)] w4 := hA3
         rw [← HZ0.out] at h; exact h)
    | (with_reducible refine at_store rfl ?_
       refine wpList_plain rfl (fun _ hK => wp_storeRow (off := 0) (new := (dc C).toArray) rfl hA3 rfl rfl 0 rfl Hz1.out Hz3.out Hz2.out (fun w8 hA8 => hK _ _ ?_)); clear hK
       replace hA8 : At w [(b3, 36, splice Z0 0 (dc C)), (b2, 36, Z0)] w8 := hA8
       rw [Hz4.out] at hA8))
  have q2 : b2 < b3 := by have := hA2.lt (k := 0) rfl; omega
  have hs1 := hA1.size
  clear hA1 hA2 hA3
  have hA9 : At w [(b3, 36, dc (emptyL width 0)), (b2, 36, Z0)] w8 := by rw [← HCe.out]; exact hA8
  clear hA8
  go_loopw [11] (fun p wr => ∃ i : Nat, i ≤ k ∧ p = .int .i64 i ∧ At w [(b3, 36, dc (emptyL width i)), (b2, 36, Z0)] wr) (fun p _ => k - (intOf p).toNat)
  case atStart => exact ⟨0, by omega, rfl, hA9⟩
  case round =>
    clear hA9
    obtain ⟨i, hik, rfl, hAr⟩ := hrel
    obtain ⟨D, HD⟩ : ∃ D, Hid (D = emptyL width i) := ⟨_, rfl⟩
    have HDl : Hid (D.length = 32) := Lib.hid (by rw [HD.out]; exact emptyL_length _ _)
    have Hdd : Hid ((dc D).length = 32) := Lib.hid (by rw [dc_length, HDl.out])
    have Htk : Hid (((dc D).drop 0).take 32 = dc D) := Lib.hid (by rw [List.drop_zero, List.take_of_length_le (by rw [Hdd.out]; exact Nat.le_refl _)])
    rw [← HD.out] at hAr
    by_cases hlt : i < k
    · have lt1 : (i : Int) < hi := by have := Hk.out; omega
      have e3 : IntKind.i64.wrap ((i : Int) + 1) = (i : Int) + 1 := IntWalk.i64_in _ (by omega)
      obtain ⟨E, HE⟩ : ∃ E, Hid (E = emptyL width (i + 1)) := ⟨_, rfl⟩
      have HEb : Hid (branchL width D D = E) := Lib.hid (by rw [HD.out, HE.out]; rfl)
      have HEl : Hid (E.length = 32) := Lib.hid (by rw [HE.out]; exact emptyL_length _ _)
      have Hde : Hid ((dc E).length = 32) := Lib.hid (by rw [dc_length, HEl.out])
      have Hy4 : Hid (splice (dc D) 0 (dc E) = dc E) := Lib.hid (splice_all' _ _ (by rw [Hde.out, Hdd.out]))
      have Hy2 : Hid ((Tryd.prog.info? 36).map (·.size) = some (dc E).toArray.size) := Lib.hid (by rw [size36, List.size_toArray, Hde.out])
      have Hy1 : Hid (0 + (dc E).toArray.size ≤ (dc D).length) := Lib.hid (by rw [List.size_toArray, Hde.out, Hdd.out]; decide)
      have Hy3 : Hid (∀ v ∈ (dc E).toArray, v.oneCell' = true) := Lib.hid (fun v hv => dc_one _ v (by simpa using hv))
      go_wp2_with (first
        | (with_reducible refine at_load rfl ?_
           refine wpList_plain rfl (fun _ hK => wp_loadRow (off := 0) (n := 32) rfl hAr rfl 0 rfl row36 (by rw [Hdd.out]; decide) (hK _ _ ?_)); clear hK
           rw [Htk.out])
        | (go_at_call 44
           go_loud (with_reducible refine (branch_any wr width D D HDl.out HDl.out (hT.at_ hAr (by simp; omega))).mono ?_
                    rintro e' w5 ⟨rfl, hc5⟩
                    have hA5 := hAr.then0 hc5
                    rw [HEb.out]
                    clear hc5))
        | (with_reducible refine at_store rfl ?_
           refine wpList_plain rfl (fun _ hK => wp_storeRow (off := 0) (new := (dc E).toArray) rfl hA5 rfl rfl 0 rfl Hy1.out Hy3.out Hy2.out (fun w6 hA6 => hK _ _ ?_)); clear hK
           replace hA6 : At w [(b3, 36, splice (dc D) 0 (dc E)), (b2, 36, Z0)] w6 := hA6
           rw [Hy4.out] at hA6))
      go_roundw
      case rel => exact ⟨i + 1, by omega, by go_num, by rw [← HE.out]; exact hA6⟩
      case measure => simp [intOf]; omega
    · obtain rfl : i = k := by omega
      have lt1 : ¬ (i : Int) < hi := by have := Hk.out; omega
      have Hx4 : Hid (splice Z0 0 (dc D) = dc D) := Lib.hid (splice_all' _ _ (by rw [Hdd.out, HZ0.out]; rfl))
      have Hx2 : Hid ((Tryd.prog.info? 36).map (·.size) = some (dc D).toArray.size) := Lib.hid (by rw [size36, List.size_toArray, Hdd.out])
      have Hx1 : Hid (0 + (dc D).toArray.size ≤ Z0.length) := Lib.hid (by rw [List.size_toArray, Hdd.out, HZ0.out]; exact Nat.le_of_eq (by rfl))
      have Hx3 : Hid (∀ v ∈ (dc D).toArray, v.oneCell' = true) := Lib.hid (fun v hv => dc_one _ v (by simpa using hv))
      go_wp2_with (first
        | (with_reducible refine at_load rfl ?_
           refine wpList_plain rfl (fun _ hK => wp_loadRow (off := 0) (n := 32) rfl hAr rfl 0 rfl row36 (by rw [Hdd.out]; decide) (hK _ _ ?_)); clear hK
           rw [Htk.out])
        | (with_reducible refine at_store rfl ?_
           refine wpList_plain rfl (fun _ hK => wp_storeRow (off := 0) (new := (dc D).toArray) rfl hAr rfl rfl 1 rfl Hx1.out Hx3.out Hx2.out (fun w6 hA6 => hK _ _ ?_)); clear hK
           replace hA6 : At w [(b3, 36, dc D), (b2, 36, splice Z0 0 (dc D))] w6 := hA6
           rw [Hx4.out] at hA6))
      refine bodyPost_ret (results_cell Tryd.results34 hA6 rfl 1 rfl (by rw [Hdd.out]; exact row36)) rfl ⟨by rw [HD.out], hA6.clear (fun r hr => ?_)⟩
      simp only [List.mem_cons, List.not_mem_nil, or_false] at hr
      rcases hr with rfl | rfl <;> simp only <;> omega
end Go.Proofs.YtppmhlkonemebaaDoor
