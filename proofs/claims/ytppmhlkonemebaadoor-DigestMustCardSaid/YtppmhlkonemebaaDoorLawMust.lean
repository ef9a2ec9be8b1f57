/- The walk of DigestMust. -/
import Derived.Test.YtppmhlkonemebaaDoorMust
namespace Go.Proofs.YtppmhlkonemebaaDoor
open Go.RowKit Go.Dk

theorem map_flip_ne (D : List UInt8) (h : D ≠ []) : D.map flip ≠ D := by
  cases D with
  | nil => exact absurd rfl h
  | cons a t => intro he; exact flip_ne a (List.cons.inj he).1

set_option maxRecDepth 100000 in
set_option maxHeartbeats 1000000 in
theorem law_must (w : World) (D : List UInt8) (hD : D.length = 32) : Calls Tryd.prog 11 #[.agg (dc D).toArray] w fun e w' => e = .returned (.bool true) ∧ At w [] w' := by
  have hA0 := At.refl w
  have HD := Lib.hid hD
  have HD80 : Hid (D.length + 80 = 112) := Lib.hid (by omega)
  have hne : D ≠ [] := fun e => by rw [e] at hD; exact absurd hD (by decide)
  have Hdc : Hid ((dc D).length = 32) := Lib.hid (by rw [dc_length, hD])
  obtain ⟨R, HR⟩ : ∃ R, Hid (R = dc (List.replicate 80 165)) := ⟨_, rfl⟩
  have HRm : Hid (dc (roomy D 165) = dc D ++ R) := Lib.hid (by rw [HR.out, roomy, dc_append])
  have Hz2 : Hid ((Tryd.prog.info? 36).map (·.size) = some (dc D).toArray.size) := Lib.hid (by rw [mu_size36, List.size_toArray, Hdc.out])
  have Hz1 : Hid (0 + (dc D).toArray.size ≤ (dc (List.replicate 32 0)).length) := Lib.hid (by rw [List.size_toArray, Hdc.out]; exact Nat.le_of_eq (by rfl))
  have Hz3 : Hid (∀ v ∈ (dc D).toArray, v.oneCell' = true) := Lib.hid (fun v hv => dc_one _ v (by simpa using hv))
  have Hz4 : Hid (splice (dc (List.replicate 32 0)) 0 (dc D) = dc D) := Lib.hid (splice_all' _ _ (by rw [Hdc.out]; rfl))
  obtain ⟨Y, HYe⟩ : ∃ Y, Hid (Y = D.map flip) := ⟨_, rfl⟩
  have HY : Hid (Y.length = 32) := Lib.hid (by rw [HYe.out, List.length_map, hD])
  have HYn : Hid (Y ≠ []) := Lib.hid (by rw [HYe.out]; simpa using hne)
  have Hne : Hid (Y ≠ D) := Lib.hid (by rw [HYe.out]; exact map_flip_ne D hne)
  have Hdy : Hid ((dc Y).length = 32) := Lib.hid (by rw [dc_length, HY.out])
  have Hy2 : Hid ((Tryd.prog.info? 36).map (·.size) = some (dc Y).toArray.size) := Lib.hid (by rw [mu_size36, List.size_toArray, Hdy.out])
  have Hy1 : Hid (0 + (dc Y).toArray.size ≤ (dc D).length) := Lib.hid (by rw [List.size_toArray, Hdy.out, Hdc.out]; decide)
  have Hy3 : Hid (∀ v ∈ (dc Y).toArray, v.oneCell' = true) := Lib.hid (fun v hv => dc_one _ v (by simpa using hv))
  have Hy4 : Hid (splice (dc D) 0 (dc Y) = dc Y) := Lib.hid (splice_all' _ _ (by rw [Hdy.out, Hdc.out]))
  have Hne := Hne
  have HDn := Lib.hid hne
  have htake : ∀ X : List UInt8, X.length = 32 → ((dc X ++ R).drop 0).take X.length = dc X := fun X hX => by
    rw [List.drop_zero, List.take_append_of_le_length (by rw [dc_length]; exact Nat.le_refl _), List.take_of_length_le (by rw [dc_length]; exact Nat.le_refl _)]
  clear hD hne
  go_enter Tryd.func11, Tryd.ntmps11
  go_wp2_with (first
    | (with_reducible refine at_box rfl ?_
       refine wpList_plain rfl (fun _ hK => wp_box (v := .agg (dc D).toArray) rfl hA0 rfl (fun b1 w1 hb1 hA1 => hK _ _ ?_)); clear hK
       replace hA1 : At w [(b1, 36, dc D)] w1 := hA1
       have hB1 : Bts w1 (some ⟨b1, 0, none⟩) D := Bts.row hA1 (k := 0) rfl (by rw [List.drop_zero, List.take_of_length_le (by rw [dc_length]; exact Nat.le_refl _)]))
    | (with_reducible refine at_slice rfl ?_
       refine wpList_plain rfl (fun _ hK => wp_sliceArr (l := 0) (h := 32) rfl Tryd.underlying36 bk_size5 rfl (boundIs_none 0) (boundIs_none 32) (by decide) (by decide) (hK _ _ ?_)); clear hK
       rw [sub_zero, Nat.sub_zero, Nat.sub_zero])
    | (go_at_call 20
       with_reducible refine (roomy_any w1 (some ⟨b1, 0, none⟩) D 165 32 32 HD.out.symm hB1 (by rw [HD.out]; decide) 165 rfl).mono ?_
       rintro e' w2 ⟨g, rfl, hg, hc2⟩
       rw [HD80.out]
       have hA2 : At w [(g, 5, dc D ++ R), (b1, 36, dc D)] w2 := by
         have h := hA1.thenNew hc2 (by intro r hr; simp only [List.mem_cons, List.not_mem_nil, or_false] at hr; subst hr; exact hg)
         rw [HRm.out] at h
         exact h
       have hB2 : Bts w2 (some ⟨g, 0, none⟩) D := Bts.row hA2 (k := 0) rfl (htake D HD.out)
       clear hc2)
    | (with_reducible refine at_slice rfl ?_
       refine wpList_plain rfl (fun _ hK => wp_sliceSl (l := 0) (h := 32) rfl Tryd.underlying24 bk_size5 rfl (boundIs_none 0) (boundIs_int _ _ _ _ rfl) (by decide) (by decide) (hK _ _ ?_)); clear hK
       rw [sub_zero, Nat.sub_zero, Nat.sub_zero])
    | (go_at_call 58
       with_reducible refine (must_any w2 (some ⟨g, 0, none⟩) D 112 32 rfl HD.out hB2).mono ?_
       rintro e' w3 ⟨rfl, hc3⟩
       have hA3 := hA2.then0 hc3
       clear hc3)
    | (with_reducible refine at_alloc rfl ?_
       refine wpList_plain rfl (fun _ hK => wp_alloc rfl hA3 mu_zero36 (fun b4 w4 hb4 hA4 => hK _ _ ?_)); clear hK
       replace hA4 : At w [(b4, 36, dc (List.replicate 32 0)), (g, 5, dc D ++ R), (b1, 36, dc D)] w4 := hA4)
    | (with_reducible refine at_store rfl ?_
       refine wpList_plain rfl (fun _ hK => wp_storeRow (off := 0) (new := (dc D).toArray) rfl hA4 rfl rfl 0 rfl Hz1.out Hz3.out Hz2.out (fun w5 hA5 => hK _ _ ?_)); clear hK
       replace hA5 : At w [(b4, 36, splice (dc (List.replicate 32 0)) 0 (dc D)), (g, 5, dc D ++ R), (b1, 36, dc D)] w5 := hA5
       rw [Hz4.out] at hA5))
  have q1 : b1 < g := by have := hA1.lt (k := 0) rfl; omega
  have q2 : g < b4 := by have := hA3.lt (k := 0) rfl; omega
  clear hA1 hA2 hA3 hA4 hB1 hB2
  have hA4 := hA5
  clear hA5
  have hBg : ∀ x : World, At w [(b4, 36, dc D), (g, 5, dc D ++ R), (b1, 36, dc D)] x → Bts x (some ⟨g, 0, none⟩) D := fun x hx => Bts.row hx (k := 1) rfl (htake D HD.out)
  have hBb : ∀ x : World, At w [(b4, 36, dc D), (g, 5, dc D ++ R), (b1, 36, dc D)] x → Bts x (some ⟨b1, 0, none⟩) D := fun x hx => Bts.row hx (k := 2) rfl (by rw [List.drop_zero, List.take_of_length_le (by rw [dc_length]; exact Nat.le_refl _)])
  have hBr : ∀ x : World, At w [(b4, 36, dc D), (g, 5, dc D ++ R), (b1, 36, dc D)] x → Bts x (some ⟨g, 0, none⟩) (roomy D 165) := fun x hx => Bts.row hx (k := 1) rfl (by rw [HRm.out, List.drop_zero, List.take_of_length_le (by rw [← HRm.out, dc_length]; exact Nat.le_refl _)])
  haveI : Nonempty { x : World // At w [(b4, 36, dc D), (g, 5, dc D ++ R), (b1, 36, dc D)] x } := ⟨⟨_, hA4⟩⟩
  refine wp_region_plan 15 [6,13,15] [0,1,2,3,4,5,7,6,8,9,10,11,12,13,14,15] (At w [(b4, 36, dc D), (g, 5, dc D ++ R), (b1, 36, dc D)]) (by kernel_rfl) (by kernel_rfl) (hA4.drew) ?_
  refine plan_q rfl rfl rfl _ (fun x hx => run_loadAll_at rfl hx rfl 0 rfl (by rw [Hdc.out]; exact mu_row36)) ?_
  refine plan_q rfl rfl rfl _ (fun x hx => run_loadAll_at rfl hx rfl 2 rfl (by rw [Hdc.out]; exact mu_row36)) ?_
  refine plan_q rfl rfl rfl (.bool false) (fun x _ => (run_op_neq_bytes rfl 5 32 D D rfl rfl Tryd.underlying36 Tryd.underlying5 bk_size5 HD.out HD.out (by kernel_rfl)).trans (by simp)) ?_
  refine plan_pure rfl rfl (fun K hK => ?_); go_simp; refine hK _ ?_; clear hK K
  refine plan_pure rfl rfl (fun K hK => ?_); go_simp; refine hK _ ?_; clear hK K
  refine plan_q rfl rfl rfl (.slice (some ⟨g, 0, none⟩) 32 112) (fun x hx => run_sliceSl rfl Tryd.underlying24 bk_size5 rfl 0 32 (by exact boundIs_none 0) (by exact boundIs_int _ _ _ _ rfl) (by decide) (by decide) (by rw [sub_zero])) ?_
  refine plan_q rfl rfl rfl _ (fun x hx => run_loadAll_at rfl hx rfl 2 rfl (by rw [Hdc.out]; exact mu_row36)) ?_
  refine plan_l rfl rfl rfl (fun K hK => ?_); go_simp
  with_reducible refine (must_any _ (some ⟨g, 0, none⟩) D 112 32 rfl HD.out (hBg _ hA4.drew)).mono ?_
  rintro e' w5 ⟨rfl, hc5⟩
  have hA5 := hA4.drew.then0 hc5
  clear hc5
  go_simp
  refine hK _ _ (fun _ => hA5) ?_; clear hK K
  refine plan_q rfl rfl rfl (.bool false) (fun x _ => (run_op_neq_bytes rfl 5 32 D D rfl rfl Tryd.underlying36 Tryd.underlying5 bk_size5 HD.out HD.out (by kernel_rfl)).trans (by simp)) ?_
  refine plan_pure rfl rfl (fun K hK => ?_); go_simp; refine hK _ ?_; clear hK K
  refine plan_pure rfl rfl (fun K hK => ?_); go_simp; refine hK _ ?_; clear hK K
  refine plan_pure rfl rfl (fun K hK => ?_); go_simp; refine hK _ ?_; clear hK K
  refine plan_q rfl rfl rfl (.slice (some ⟨b1, 0, none⟩) 32 32) (fun x hx => run_sliceArr rfl Tryd.underlying36 bk_size5 rfl 0 32 (by exact boundIs_none 0) (by exact boundIs_none 32) (by decide) (by decide) (by rw [sub_zero])) ?_
  refine plan_l rfl rfl rfl (fun K hK => ?_); go_simp
  with_reducible refine (intact_any _ (some ⟨g, 0, none⟩) (some ⟨b1, 0, none⟩) D 165 112 32 32 112 HD.out.symm rfl (by decide) (hBr _ hA5) (hBb _ hA5) (by rw [HD.out]; decide) 165 rfl).mono ?_
  rintro e' w6 ⟨rfl, hc6⟩
  have hA6 := hA5.then0 hc6
  clear hc6
  go_simp
  refine hK _ _ (fun _ => hA6) ?_; clear hK K
  refine plan_pure rfl rfl (fun K hK => ?_); go_simp; refine hK _ ?_; clear hK K
  refine plan_l rfl rfl rfl (fun K hK => ?_); go_simp; refine hK _ _ (fun h => absurd h (by decide)) ?_; clear hK K
  refine plan_end ?_
  clear hA4 hA5
  go_wp2_with (first
    | (with_reducible refine at_slice rfl ?_
       refine wpList_plain rfl (fun _ hK => wp_sliceSl (l := 0) (h := 32) rfl Tryd.underlying24 bk_size5 rfl (boundIs_none 0) (boundIs_int _ _ _ _ rfl) (by decide) (by decide) (hK _ _ ?_)); clear hK
       rw [sub_zero, Nat.sub_zero, Nat.sub_zero])
    | (go_at_call 27
       with_reducible refine (turned_any w6 g 5 D R 112 32 HD.out.symm HDn.out (by rw [HD.out]; decide) (hA6.row (k := 1) rfl)).mono ?_
       rintro e' w7 ⟨g', cap, z, rfl, hg', hc7⟩
       rw [HD.out]
       rw [← HYe.out] at hc7
       have q3 : b4 < g' := by have := hA6.lt (k := 0) rfl; omega
       have hs6 := hA6.size
       have hA7 : At w [(g', 5, dc (Y ++ List.replicate z 0)), (b4, 36, dc D), (g, 5, dc Y ++ R), (b1, 36, dc D)] w7 := by
         refine hA6.trans hc7 _ ?_ ?_ ?_ ?_
         · intro r hr
           simp only [List.mem_cons, List.not_mem_nil, or_false] at hr
           rcases hr with rfl | rfl | rfl | rfl
           · left; simp
           · right; refine ⟨by simp, ?_⟩; simp; omega
           · left; simp
           · right; refine ⟨by simp, ?_⟩; simp; omega
         · simp; omega
         · intro r hr _; simp only [List.mem_cons, List.not_mem_nil, or_false] at hr; rcases hr with rfl | rfl <;> simp
         · intro r hr _; simp only [List.mem_cons, List.not_mem_nil, or_false] at hr; rcases hr with rfl | rfl | rfl <;> simp
       obtain ⟨R', HR'⟩ : ∃ R', Hid (R' = dc (List.replicate z 0)) := ⟨_, rfl⟩
       rw [dc_append, ← HR'.out] at hA7
       have hB7 : Bts w7 (some ⟨g, 0, none⟩) Y := Bts.row hA7 (k := 2) rfl (htake Y HY.out)
       clear hc7)
    | (go_at_call 58
       with_reducible refine (must_any w7 (some ⟨g, 0, none⟩) Y 112 32 rfl HY.out hB7).mono ?_
       rintro e' w8 ⟨rfl, hc8⟩
       have hA8 := hA7.then0 hc8
       clear hc8)
    | (with_reducible refine at_store rfl ?_
       refine wpList_plain rfl (fun _ hK => wp_storeRow (off := 0) (new := (dc Y).toArray) rfl hA8 rfl rfl 1 rfl Hy1.out Hy3.out Hy2.out (fun w9 hA9 => hK _ _ ?_)); clear hK
       replace hA9 : At w [(g', 5, dc Y ++ R'), (b4, 36, splice (dc D) 0 (dc Y)), (g, 5, dc Y ++ R), (b1, 36, dc D)] w9 := hA9
       rw [Hy4.out] at hA9))
  clear hA6 hA7 hA8 hB7
  have hB4 : ∀ x : World, At w [(g', 5, dc Y ++ R'), (b4, 36, dc Y), (g, 5, dc Y ++ R), (b1, 36, dc D)] x → Bts x (some ⟨b4, 0, none⟩) Y := fun x hx => Bts.row hx (k := 1) rfl (by rw [List.drop_zero, List.take_of_length_le (by rw [dc_length]; exact Nat.le_refl _)])
  have hB' : ∀ x : World, At w [(g', 5, dc Y ++ R'), (b4, 36, dc Y), (g, 5, dc Y ++ R), (b1, 36, dc D)] x → Bts x (some ⟨g', 0, none⟩) Y := fun x hx => Bts.row hx (k := 0) rfl (by rw [List.drop_zero, List.take_append_of_le_length (by rw [dc_length]; exact Nat.le_refl _), List.take_of_length_le (by rw [dc_length]; exact Nat.le_refl _)])
  haveI : Nonempty { x : World // At w [(g', 5, dc Y ++ R'), (b4, 36, dc Y), (g, 5, dc Y ++ R), (b1, 36, dc D)] x } := ⟨⟨_, hA9⟩⟩
  refine wp_region_plan 10 [10] [0,1,2,3,4,5,6,7,8,9,10] (At w [(g', 5, dc Y ++ R'), (b4, 36, dc Y), (g, 5, dc Y ++ R), (b1, 36, dc D)]) (by kernel_rfl) (by kernel_rfl) (hA9.drew) ?_
  refine plan_q rfl rfl rfl (.slice (some ⟨b4, 0, none⟩) 32 32) (fun x hx => run_sliceArr rfl Tryd.underlying36 bk_size5 rfl 0 32 (by exact boundIs_none 0) (by exact boundIs_none 32) (by decide) (by decide) (by rw [sub_zero])) ?_
  refine plan_q rfl rfl rfl (.string ⟨Y.toArray⟩) (fun x hx => run_convert_str rfl Tryd.underlying24 Tryd.underlying5 Tryd.underlying9 rfl HY.out.symm HYn.out (hB4 _ hx)) ?_
  refine plan_pure rfl rfl (fun K hK => ?_); go_simp; refine hK _ ?_; clear hK K
  refine plan_q rfl rfl rfl (.string ⟨Y.toArray⟩) (fun x hx => run_convert_str rfl Tryd.underlying24 Tryd.underlying5 Tryd.underlying9 rfl HY.out.symm HYn.out (hB' _ hx)) ?_
  refine plan_pure rfl rfl (fun K hK => ?_); go_simp; refine hK _ ?_; clear hK K
  refine plan_pure rfl rfl (fun K hK => ?_); go_simp; refine hK _ ?_; clear hK K
  refine plan_q rfl rfl rfl _ (fun x hx => run_loadAll_at rfl hx rfl 1 rfl (by rw [Hdy.out]; exact mu_row36)) ?_
  refine plan_q rfl rfl rfl _ (fun x hx => run_loadAll_at rfl hx rfl 3 rfl (by rw [Hdc.out]; exact mu_row36)) ?_
  refine plan_q rfl rfl rfl (.bool true) (fun x _ => (run_op_neq_bytes rfl 5 32 Y D rfl rfl Tryd.underlying36 Tryd.underlying5 bk_size5 HY.out HD.out (by kernel_rfl)).trans (by simpa using Hne.out)) ?_
  refine plan_pure rfl rfl (fun K hK => ?_); go_simp; refine hK _ ?_; clear hK K
  refine plan_l rfl rfl rfl (fun K hK => ?_); go_simp
  refine hK _ _ (fun h => absurd h (by decide)) ?_; clear hK K
  refine plan_end ?_
  go_wp2
  go_ret
  exact ⟨rfl, hA9.drew.clear (fun r hr => by
    simp only [List.mem_cons, List.not_mem_nil, or_false] at hr
    rcases hr with rfl | rfl | rfl | rfl <;> simp only <;> omega)⟩
end Go.Proofs.YtppmhlkonemebaaDoor
