/- texts, sum, unlike of the law DigestApart. -/
import Derived.Test.YtppmhlkonemebaaDoorTab3
namespace Go.Proofs.YtppmhlkonemebaaDoor
open Go.RowKit Go.Dk
set_option linter.unusedVariables false

/-- the cells of a law's Parts -/
def PC (w d c h : Int) (X Y : List UInt8) (p q : Value) : List Value := [.int .i64 w, .int .i64 d, .int .i64 c, .int .i64 h] ++ dc X ++ dc Y ++ [p, q]
section
variable {w d c h : Int} {X Y : List UInt8} {p q : Value}
theorem pc_len (hX : X.length = 32) (hY : Y.length = 32) : (PC w d c h X Y p q).length = 70 := by simp [PC, dc_length, hX, hY]
theorem pc_C : (PC w d c h X Y p q)[2]? = some (.int .i64 c) := rfl
theorem pc_P (hX : X.length = 32) (hY : Y.length = 32) : (PC w d c h X Y p q)[68]? = some p := by
  unfold PC
  rw [List.getElem?_append_right (by simp [dc_length, hX, hY])]
  simp [dc_length, hX, hY]
theorem pc_A (hX : X.length = 32) : ((PC w d c h X Y p q).drop 4).take 32 = dc X := by
  have : (PC w d c h X Y p q).drop 4 = dc X ++ (dc Y ++ [p, q]) := by simp [PC]
  rw [this, List.take_append_of_le_length (by rw [dc_length, hX]; exact Nat.le_refl _), List.take_of_length_le (by rw [dc_length, hX]; exact Nat.le_refl _)]
theorem pc_B (hX : X.length = 32) (hY : Y.length = 32) : ((PC w d c h X Y p q).drop 36).take 32 = dc Y := by
  have : (PC w d c h X Y p q).drop 36 = dc Y ++ [p, q] := by
    have e : PC w d c h X Y p q = ([.int .i64 w, .int .i64 d, .int .i64 c, .int .i64 h] ++ dc X) ++ (dc Y ++ [p, q]) := by simp [PC]
    rw [e, List.drop_left' (by simp [dc_length, hX])]
  rw [this, List.take_append_of_le_length (by rw [dc_length, hY]; exact Nat.le_refl _), List.take_of_length_le (by rw [dc_length, hY]; exact Nat.le_refl _)]
end
def textL (call : Nat) (c : Int) (X Y p : List UInt8) : List UInt8 := match call with
  | 1 => 0 :: p
  | 2 => 1 :: (X ++ Y)
  | 3 => 2 :: (X ++ Y)
  | 4 => 3 :: (X ++ be 8 (c64 c) ++ Y)
  | 5 => 4 :: (X ++ Y)
  | 6 => [5]
  | 7 => 6 :: p
  | _ => []
theorem fmtB1 : True := trivial
theorem tb_build66 (C : Int) (f : Nat → UInt8) (w : World) : (Instr.build 66 #[(0, .int .i64 C), (1, .agg (dc ((List.range 32).map f)).toArray)]).run Tryd.prog w = .ok (.agg (.int .i64 C :: dc ((List.range 32).map f)).toArray) w := by kernel_rfl
theorem list32 {D : List UInt8} (h : D.length = 32) : (List.range 32).map (bAt D) = D := by
  apply List.ext_getElem?
  intro i
  rw [List.getElem?_map]
  by_cases hi : i < 32
  · rw [List.getElem?_range hi, List.getElem?_eq_getElem (by omega)]
    simp [bAt, h, hi]
  · rw [List.getElem?_eq_none (by simp; omega), List.getElem?_eq_none (by omega)]; rfl
theorem tb_build66_at {D : List UInt8} (h : D.length = 32) (C : Int) (w : World) : (Instr.build 66 #[(0, .int .i64 C), (1, .agg (dc D).toArray)]).run Tryd.prog w = .ok (.agg (.int .i64 C :: dc D).toArray) w := by
  have h1 := tb_build66 C (bAt D) w
  rw [list32 h] at h1
  exact h1
theorem cutL_32 {D : List UInt8} (h : D.length = 32) : cutL D 32 = D := by
  have hk : kept 32 = 32 := by decide
  rw [cutL, hk, List.take_of_length_le (by omega)]
  simp
theorem Own.drawn {w0 : World} {X : List Row} {v : Value} {n : Nat} {W : List Value} (h : Own w0 5 1 X v n W) : Own w0 5 1 X v n W := h
theorem sz3_t4 : (Tryd.prog.info? 3).map (·.size) = some 1 := by kernel_rfl
theorem sz5_t4 : (Tryd.prog.info? 5).map (·.size) = some 1 := by kernel_rfl
theorem sz24_t4 : (Tryd.prog.info? 24).map (·.size) = some 1 := by kernel_rfl
theorem sz36_t4 : (Tryd.prog.info? 36).map (·.size) = some 32 := by kernel_rfl
theorem cl49_t4 : CallsTo Tryd.prog 49 := ⟨_, Tryd.func49, by kernel_rfl, by kernel_rfl⟩
theorem cl73_t4 : CallsTo Tryd.prog 73 := ⟨_, Tryd.func73, by kernel_rfl, by kernel_rfl⟩

set_option maxRecDepth 100000 in
set_option maxHeartbeats 1000000 in
theorem eight_any (w : World) (n : Int) :
    Calls Tryd.prog 73 #[.int .i64 n] w fun e w' => ∃ g, e = .returned (.slice (some ⟨g, 0, none⟩) 8 8) ∧ w.heap.size ≤ g ∧ At w [(g, 5, dc (be 8 (c64 n)))] w' := by
  have hA0 := At.refl w
  obtain ⟨N, hN⟩ : ∃ N, N = c64 n := ⟨_, rfl⟩
  have hwr : IntKind.u64.wrap n = (N : Int) := by rw [hN]; exact c64_wrap n
  rw [← hN]
  refine vc_enter Tryd.func73 rfl Tryd.ntmps73 (Nat.le_of_ble_eq_true rfl) (fun a hF => ?_)
  apply wp_seq_k; intro K1 hK1
  refine wp_region_lit ?_
  refine vc_y hF rfl rfl (by decide) _ (y_assign rfl rfl) (fun a hF => ?_)
  refine vc_nil ?_
  refine hK1 _ _ ?_; clear  hK1 K1
  apply wp_seq_k; intro K2 hK2
  refine wp_region_lit ?_
  refine vc_op rfl (fun K hK => ws_make hF rfl (by decide) rfl hA0 Tryd.underlying24 bk_byte5 8 rfl rfl rfl rfl (by decide) (fun g w1 a hg hF hA1 => hK _ _ ?_))
  clear hK K
  refine vc_y hF rfl rfl (by decide) _ (y_assign rfl rfl) (fun a hF => ?_)
  refine vc_nil ?_
  refine hK2 _ _ ?_; clear  hK2 K2
  apply wp_seq_k; intro K3 hK3
  apply wp_seq_k; intro K4 hK4
  refine wp_region_lit ?_
  refine vc_y hF rfl rfl (by decide) _ (y_assign rfl rfl) (fun a hF => ?_)
  refine vc_nil ?_
  refine hK4 _ _ ?_; clear  hK4 K4
  apply wp_block
  refine vc_loop (G := Nat) (fun i a x => i ≤ 8 ∧ Fr 22 [(4, .int .i64 (i : Int)), (0, .int .i64 n), (3, .slice (some ⟨g, 0, none⟩) 8 8)] a ∧ At w [(g, 5, dc ((be 8 N).take i ++ List.replicate (8 - i) 0))] x) (fun i => 8 - i) 0 ⟨Nat.zero_le _, hF.keep [4, 0, 3] rfl, hA1⟩ ?_
  clear hF
  rintro i a wr ⟨hi, hF, hAr⟩
  by_cases hlt : i < 8
  · apply wp_seq_k; intro K5 hK5
    apply wp_seq_k; intro K6 hK6
    refine wp_region_lit ?_
    refine vc_y hF rfl rfl (by decide) _ (y_move rfl rfl) (fun a hF => ?_)
    refine vc_y hF rfl rfl (by decide) _ (y_cmp rfl rfl rfl rfl rfl) (fun a hF => ?_)
    refine vc_nil ?_
    refine hK6 _ _ ?_; clear  hK6 K6
    refine vc_trueB hF rfl (lss_t (by omega)) ?_
    apply wp_skip
    refine hK5 _ _ ?_; clear  hK5 K5
    apply wp_seq_k; intro K7 hK7
    apply wp_block
    refine wp_region_lit ?_
    refine vc_y hF rfl rfl (by decide) _ (y_move rfl rfl) (fun a hF => ?_)
    refine vc_y hF rfl rfl (by decide) _ (y_move rfl rfl) (fun a hF => ?_)
    refine vc_y hF rfl rfl (by decide) _ (y_move rfl rfl) (fun a hF => ?_)
    refine vc_y hF rfl rfl (by decide) _ (y_conv rfl Tryd.underlying3 Tryd.underlying85 rfl hwr) (fun a hF => ?_)
    refine vc_y hF rfl rfl (by decide) _ (y_move rfl rfl) (fun a hF => ?_)
    refine vc_y hF rfl rfl (by decide) _ (y_mul rfl rfl rfl (show IntKind.i64.wrap (8 * (i : Int)) = ((8 * i : Nat) : Int) by rw [IntWalk.i64_in _ (by omega)]; omega)) (fun a hF => ?_)
    refine vc_y hF rfl rfl (by decide) _ (y_sub rfl rfl rfl (show IntKind.i64.wrap (56 - ((8 * i : Nat) : Int)) = ((56 - 8 * i : Nat) : Int) by rw [IntWalk.i64_in _ (by omega)]; omega)) (fun a hF => ?_)
    refine vc_y hF rfl rfl (by decide) _ (y_conv rfl Tryd.underlying3 Tryd.underlying47 rfl (show IntKind.u64.wrap ((56 - 8 * i : Nat) : Int) = ((56 - 8 * i : Nat) : Int) by rw [IntKind.wrap_u64]; omega)) (fun a hF => ?_)
    refine vc_y hF rfl rfl (by decide) _ (y_shr rfl rfl rfl (by omega) rfl) (fun a hF => ?_)
    refine vc_y hF rfl rfl (by decide) _ (y_conv rfl Tryd.underlying85 Tryd.underlying5 rfl (ow_shr N (7 - i) (56 - 8 * i) (by omega) (by omega))) (fun a hF => ?_)
    refine vc_y hF rfl rfl (by decide) _ (y_ixSl rfl Tryd.underlying24 sz5_t4 rfl rfl i rfl (by omega) (ad2 _ _ _)) (fun a hF => ?_)
    refine vc_op rfl (fun K hK => ws_store1 hF rfl rfl hAr rfl rfl 0 rfl (by rw [dc_length]; simp [be]; omega) rfl sz5_t4 (fun w3 hA3 => hK _ _ ?_))
    clear hK K
    replace hA3 : At w [(g, 5, dc ((be 8 N).take (i + 1) ++ List.replicate (8 - (i + 1)) 0))] w3 := by rw [show 8 - i = (8 - (i + 1)) + 1 by omega, Nat.zero_add, take_put (UInt8.ofNat (N / 256 ^ (7 - i))) (be_at (k := 8) (by omega))] at hA3; exact hA3
    refine vc_nil ?_
    refine hK7 _ _ ?_; clear  hK7 K7
    refine wp_region_lit ?_
    refine vc_y hF rfl rfl (by decide) _ (y_move rfl rfl) (fun a hF => ?_)
    refine vc_y hF rfl rfl (by decide) _ (y_add rfl rfl rfl (IntWalk.i64_in _ (by omega))) (fun a hF => ?_)
    refine vc_y hF rfl rfl (by decide) _ (y_assign rfl rfl) (fun a hF => ?_)
    refine vc_nil ?_
    exact ⟨i + 1, by omega, by omega, hF.keep [4, 0, 3] rfl, hA3⟩
  · obtain rfl : i = 8 := by omega
    rw [List.take_of_length_le (by simp [be]), Nat.sub_self, List.replicate_zero, List.append_nil] at hAr
    apply wp_seq_k; intro K8 hK8
    apply wp_seq_k; intro K9 hK9
    refine wp_region_lit ?_
    refine vc_y hF rfl rfl (by decide) _ (y_move rfl rfl) (fun a hF => ?_)
    refine vc_y hF rfl rfl (by decide) _ (y_cmp rfl rfl rfl rfl rfl) (fun a hF => ?_)
    refine vc_nil ?_
    refine hK9 _ _ ?_; clear  hK9 K9
    refine vc_falseB hF rfl (lss_f (by omega)) ?_
    apply wp_exit
    refine hK3 _ _ ?_; clear hK8 K8 hK3 K3
    apply wp_seq_k; intro K10 hK10
    refine wp_region_lit ?_
    refine vc_y hF rfl rfl (by decide) _ (y_move rfl rfl) (fun a hF => ?_)
    refine vc_y hF rfl rfl (by decide) _ (y_assign rfl rfl) (fun a hF => ?_)
    refine vc_nil ?_
    refine hK10 _ _ ?_; clear  hK10 K10
    apply wp_ret
    refine vc_ret1 hF Tryd.results73 rfl ?_
    exact ⟨g, rfl, hg, hAr⟩

set_option maxRecDepth 100000 in
set_option maxHeartbeats 1000000 in
theorem texts_1 (w : World) (pw pd pc ph : Int) (X Y : List UInt8) (PA : Option Addr) (p : List UInt8) (cp : Nat) (pq : Value) (hX : X.length = 32) (hY : Y.length = 32) (hcp : p.length ≤ cp) (hB : Bts w PA p) (hp : p.length < 140737488353000) :
    Calls Tryd.prog 54 #[.int .i64 1, .agg (PC pw pd pc ph X Y (.slice PA p.length cp) pq).toArray] w fun e w' => ∃ v Y0, e = .returned v ∧ Own w 5 1 Y0 v (textL 1 pc X Y p).length (dc (textL 1 pc X Y p)) ∧ At w Y0 w' := by
  have hA0 := At.refl w
  refine vc_enter Tryd.func54 rfl Tryd.ntmps54 (Nat.le_of_ble_eq_true rfl) (fun a hF => ?_)
  apply wp_seq_k; intro K1 hK1
  refine wp_region_lit ?_
  refine vc_op rfl (fun K hK => ws_box (cs := PC pw pd pc ph X Y (.slice PA p.length cp) pq) hF rfl (by decide) rfl hA0 rfl (fun g w1 a hg hF hA1 => hK _ _ ?_))
  clear hK K
  refine vc_y hF rfl rfl (by decide) _ (y_assign rfl rfl) (fun a hF => ?_)
  refine vc_nil ?_
  refine hK1 _ _ ?_; clear  hK1 K1
  apply wp_seq_k; intro K2 hK2
  apply wp_seq_k; intro K3 hK3
  refine wp_region_lit ?_
  refine vc_y hF rfl rfl (by decide) _ (y_move rfl rfl) (fun a hF => ?_)
  refine vc_nil ?_
  refine hK3 _ _ ?_; clear  hK3 K3
  apply wp_block
  apply wp_seq_k; intro K4 hK4
  refine wp_region_lit ?_
  refine vc_y hF rfl rfl (by decide) _ (y_cmp (c := true) rfl rfl rfl rfl rfl) (fun a hF => ?_)
  refine vc_y hF rfl rfl (by decide) _ (y_assign rfl rfl) (fun a hF => ?_)
  refine vc_nil ?_
  refine hK4 _ _ ?_; clear  hK4 K4
  refine vc_true hF rfl ?_
  apply wp_seq_k; intro K5 hK5
  refine wp_region_lit ?_
  refine vc_y hF rfl rfl (by decide) _ (y_field rfl Tryd.underlying64 rfl sz24_t4 (by decide) rfl (rfl : (⟨_, 0 + _, none⟩ : Addr) = ⟨_, 68, none⟩)) (fun a hF => ?_)
  refine vc_y hF rfl rfl (by decide) _ (y_loadAt rfl hA1 rfl 0 rfl (pc_P hX hY) ow_no24) (fun a hF => ?_)
  refine vc_op rfl (fun K hK => ws_bs1 hF rfl (by decide) rfl hA1 rfl (tb_part1 _ _ _) (fun b2 w2 a hb2 hF hA2 => hK _ _ ?_))
  clear hK K
  have hnr : ∀ r ∈ [((b2, 24, [.slice PA p.length cp]) : Row), (g, 64, PC pw pd pc ph X Y (.slice PA p.length cp) pq)], w.heap.size ≤ r.1 := cons_new (by have := hA1.size; omega) (one_new hg)
  have hP : Pieces w2 (some ⟨b2, 0, none⟩) [(PA, cp, p)] := Pieces.row hA2 (k := 0) rfl (fun A' c' l' h => by
    obtain ⟨rfl, rfl, rfl⟩ : A' = PA ∧ c' = cp ∧ l' = p := by simpa using h
    exact ⟨hcp, hB.fresh hA2 hnr⟩)
  refine vc_op rfl (fun K hK => ws_call hF rfl (by decide) cl49_t4 rfl rfl ?_)
  with_reducible refine (text_any w2 0 0 rfl (some ⟨b2, 0, none⟩) _ 1 1 rfl hP (by rw [flat_one]; omega) (by decide)).mono ?_
  rintro e' w3 ⟨v3, Y3, rfl, hO3, hc3⟩
  refine ⟨_, rfl, fun a hF => hK _ _ ?_⟩; clear hK K
  rw [flat_one] at hO3
  have hA3 := hA2.thenNew hc3 hO3.new
  have hOw := hO3.weaken hA2.size
  refine vc_y hF rfl rfl (by decide) _ (y_assign rfl rfl) (fun a hF => ?_)
  refine vc_nil ?_
  refine hK5 _ _ ?_; clear  hK5 K5
  apply wp_ret
  simp only [Exit.then, Exit.inBlock]
  refine vc_ret1 hF Tryd.results54 rfl ?_
  exact ⟨v3, Y3, rfl, hOw, hA3.dropNew (List.sublist_append_left _ _) (all_new hOw.new hnr)⟩

set_option maxRecDepth 100000 in
set_option maxHeartbeats 1000000 in
theorem texts_2 (w : World) (pw pd pc ph : Int) (X Y : List UInt8) (PA : Option Addr) (p : List UInt8) (cp : Nat) (pq : Value) (hX : X.length = 32) (hY : Y.length = 32) (hcp : p.length ≤ cp) (hB : Bts w PA p) (hp : p.length < 140737488353000) :
    Calls Tryd.prog 54 #[.int .i64 2, .agg (PC pw pd pc ph X Y (.slice PA p.length cp) pq).toArray] w fun e w' => ∃ v Y0, e = .returned v ∧ Own w 5 1 Y0 v (textL 2 pc X Y p).length (dc (textL 2 pc X Y p)) ∧ At w Y0 w' := by
  have hA0 := At.refl w
  refine vc_enter Tryd.func54 rfl Tryd.ntmps54 (Nat.le_of_ble_eq_true rfl) (fun a hF => ?_)
  apply wp_seq_k; intro K1 hK1
  refine wp_region_lit ?_
  refine vc_op rfl (fun K hK => ws_box (cs := PC pw pd pc ph X Y (.slice PA p.length cp) pq) hF rfl (by decide) rfl hA0 rfl (fun g w1 a hg hF hA1 => hK _ _ ?_))
  clear hK K
  refine vc_y hF rfl rfl (by decide) _ (y_assign rfl rfl) (fun a hF => ?_)
  refine vc_nil ?_
  refine hK1 _ _ ?_; clear  hK1 K1
  apply wp_seq_k; intro K2 hK2
  apply wp_seq_k; intro K3 hK3
  refine wp_region_lit ?_
  refine vc_y hF rfl rfl (by decide) _ (y_move rfl rfl) (fun a hF => ?_)
  refine vc_nil ?_
  refine hK3 _ _ ?_; clear  hK3 K3
  apply wp_block
  apply wp_seq_k; intro K4 hK4
  refine wp_region_lit ?_
  refine vc_y hF rfl rfl (by decide) _ (y_cmp (c := false) rfl rfl rfl rfl rfl) (fun a hF => ?_)
  refine vc_y hF rfl rfl (by decide) _ (y_assign rfl rfl) (fun a hF => ?_)
  refine vc_nil ?_
  refine hK4 _ _ ?_; clear  hK4 K4
  refine vc_false hF rfl ?_
  apply wp_seq_k; intro K5 hK5
  refine wp_region_lit ?_
  refine vc_y hF rfl rfl (by decide) _ (y_cmp (c := true) rfl rfl rfl rfl rfl) (fun a hF => ?_)
  refine vc_y hF rfl rfl (by decide) _ (y_assign rfl rfl) (fun a hF => ?_)
  refine vc_nil ?_
  refine hK5 _ _ ?_; clear  hK5 K5
  refine vc_true hF rfl ?_
  apply wp_seq_k; intro K6 hK6
  refine wp_region_plan 5 [4,5,6] [0,1,2,3,4,5,6] (fun x => At w [(g, 64, PC pw pd pc ph X Y (.slice PA p.length cp) pq)] x) (by kernel_rfl) (by kernel_rfl) (hA1.drew) ?_
  refine vp_y hF rfl rfl rfl rfl (by decide) _ (fun x hx => y_field rfl Tryd.underlying64 rfl sz36_t4 (by decide) rfl (rfl : (⟨_, 0 + _, none⟩ : Addr) = ⟨_, 4, none⟩)) (fun a hF => ?_)
  refine vp_y hF rfl rfl rfl rfl (by decide) _ (fun x hx => y_sliceArr rfl Tryd.underlying36 ow_size5 rfl (.none 0) (.none 32) (by omega) (by omega) slice_to) (fun a hF => ?_)
  refine vp_y hF rfl rfl rfl rfl (by decide) _ (fun x hx => y_field rfl Tryd.underlying64 rfl sz36_t4 (by decide) rfl (rfl : (⟨_, 0 + _, none⟩ : Addr) = ⟨_, 36, none⟩)) (fun a hF => ?_)
  refine vp_y hF rfl rfl rfl rfl (by decide) _ (fun x hx => y_sliceArr rfl Tryd.underlying36 ow_size5 rfl (.none 0) (.none 32) (by omega) (by omega) slice_to) (fun a hF => ?_)
  refine vp_l rfl rfl rfl (fun K hK => ws_bs2 hF rfl (by decide) rfl hA1.drew rfl rfl (tb_part2 _ _ _ _ _ _) (fun b2 w2 a hb2 hF hA2 => hK _ _ (fun _ => hA2.drop (.cons _ (.refl _)) (fun r hr hlt => by rcases List.mem_cons.1 hr with e | h; (subst e; have := hA1.drew.size; simp only at hlt; omega); exact h)) ?_))
  clear hK K
  have hnr : ∀ r ∈ [((b2, 24, [.slice (some ⟨g, 4, none⟩) 32 32, .slice (some ⟨g, 36, none⟩) 32 32]) : Row), (g, 64, PC pw pd pc ph X Y (.slice PA p.length cp) pq)], w.heap.size ≤ r.1 := cons_new (by have := hA1.drew.size; omega) (one_new hg)
  have hP : Pieces w2 (some ⟨b2, 0, none⟩) [(some ⟨g, 4, none⟩, 32, X), (some ⟨g, 36, none⟩, 32, Y)] := Pieces.row hA2 (k := 0) (by rw [List.map_cons, List.map_cons, hX, hY]; rfl) (fun A' c' l' h => by
    rcases List.mem_cons.1 h with h | h
    · obtain ⟨rfl, rfl, rfl⟩ : A' = some ⟨g, 4, none⟩ ∧ c' = 32 ∧ l' = X := by simpa using h
      exact ⟨by omega, Bts.row hA2 (k := 1) rfl (by rw [hX]; exact pc_A hX)⟩
    · obtain ⟨rfl, rfl, rfl⟩ : A' = some ⟨g, 36, none⟩ ∧ c' = 32 ∧ l' = Y := by simpa using h
      exact ⟨by omega, Bts.row hA2 (k := 1) rfl (by rw [hY]; exact pc_B hX hY)⟩)
  refine vp_l rfl rfl rfl (fun K hK => ws_call hF rfl (by decide) cl49_t4 rfl rfl ?_)
  with_reducible refine (text_any w2 1 1 rfl (some ⟨b2, 0, none⟩) _ 2 2 rfl hP (by rw [flat_two, List.length_append]; omega) (by decide)).mono ?_
  rintro e' w3 ⟨v3, Y3, rfl, hO3, hc3⟩
  refine ⟨_, rfl, fun a hF => hK _ _ (fun h => absurd h (by decide)) ?_⟩; clear hK K
  rw [flat_two] at hO3
  have hA3 := hA2.thenNew hc3 hO3.new
  have hOw := hO3.weaken hA2.size
  refine vp_ly hF rfl rfl rfl rfl (by decide) _ (y_assign rfl rfl) (fun h => absurd h (by decide)) (fun a hF => ?_)
  refine plan_end ?_
  refine hK6 _ _ ?_; clear  hK6 K6
  apply wp_ret
  simp only [Exit.then, Exit.inBlock]
  refine vc_ret1 hF Tryd.results54 rfl ?_
  exact ⟨v3, Y3, rfl, hOw, hA3.dropNew (List.sublist_append_left _ _) (all_new hOw.new hnr)⟩

set_option maxRecDepth 100000 in
set_option maxHeartbeats 1000000 in
theorem texts_3 (w : World) (pw pd pc ph : Int) (X Y : List UInt8) (PA : Option Addr) (p : List UInt8) (cp : Nat) (pq : Value) (hX : X.length = 32) (hY : Y.length = 32) (hcp : p.length ≤ cp) (hB : Bts w PA p) (hp : p.length < 140737488353000) :
    Calls Tryd.prog 54 #[.int .i64 3, .agg (PC pw pd pc ph X Y (.slice PA p.length cp) pq).toArray] w fun e w' => ∃ v Y0, e = .returned v ∧ Own w 5 1 Y0 v (textL 3 pc X Y p).length (dc (textL 3 pc X Y p)) ∧ At w Y0 w' := by
  have hA0 := At.refl w
  refine vc_enter Tryd.func54 rfl Tryd.ntmps54 (Nat.le_of_ble_eq_true rfl) (fun a hF => ?_)
  apply wp_seq_k; intro K1 hK1
  refine wp_region_lit ?_
  refine vc_op rfl (fun K hK => ws_box (cs := PC pw pd pc ph X Y (.slice PA p.length cp) pq) hF rfl (by decide) rfl hA0 rfl (fun g w1 a hg hF hA1 => hK _ _ ?_))
  clear hK K
  refine vc_y hF rfl rfl (by decide) _ (y_assign rfl rfl) (fun a hF => ?_)
  refine vc_nil ?_
  refine hK1 _ _ ?_; clear  hK1 K1
  apply wp_seq_k; intro K2 hK2
  apply wp_seq_k; intro K3 hK3
  refine wp_region_lit ?_
  refine vc_y hF rfl rfl (by decide) _ (y_move rfl rfl) (fun a hF => ?_)
  refine vc_nil ?_
  refine hK3 _ _ ?_; clear  hK3 K3
  apply wp_block
  apply wp_seq_k; intro K4 hK4
  refine wp_region_lit ?_
  refine vc_y hF rfl rfl (by decide) _ (y_cmp (c := false) rfl rfl rfl rfl rfl) (fun a hF => ?_)
  refine vc_y hF rfl rfl (by decide) _ (y_assign rfl rfl) (fun a hF => ?_)
  refine vc_nil ?_
  refine hK4 _ _ ?_; clear  hK4 K4
  refine vc_false hF rfl ?_
  apply wp_seq_k; intro K5 hK5
  refine wp_region_lit ?_
  refine vc_y hF rfl rfl (by decide) _ (y_cmp (c := false) rfl rfl rfl rfl rfl) (fun a hF => ?_)
  refine vc_y hF rfl rfl (by decide) _ (y_assign rfl rfl) (fun a hF => ?_)
  refine vc_nil ?_
  refine hK5 _ _ ?_; clear  hK5 K5
  refine vc_false hF rfl ?_
  apply wp_seq_k; intro K6 hK6
  refine wp_region_lit ?_
  refine vc_y hF rfl rfl (by decide) _ (y_cmp (c := true) rfl rfl rfl rfl rfl) (fun a hF => ?_)
  refine vc_y hF rfl rfl (by decide) _ (y_assign rfl rfl) (fun a hF => ?_)
  refine vc_nil ?_
  refine hK6 _ _ ?_; clear  hK6 K6
  refine vc_true hF rfl ?_
  apply wp_seq_k; intro K7 hK7
  refine wp_region_plan 5 [4,5,6] [0,1,2,3,4,5,6] (fun x => At w [(g, 64, PC pw pd pc ph X Y (.slice PA p.length cp) pq)] x) (by kernel_rfl) (by kernel_rfl) (hA1.drew) ?_
  refine vp_y hF rfl rfl rfl rfl (by decide) _ (fun x hx => y_field rfl Tryd.underlying64 rfl sz36_t4 (by decide) rfl (rfl : (⟨_, 0 + _, none⟩ : Addr) = ⟨_, 4, none⟩)) (fun a hF => ?_)
  refine vp_y hF rfl rfl rfl rfl (by decide) _ (fun x hx => y_sliceArr rfl Tryd.underlying36 ow_size5 rfl (.none 0) (.none 32) (by omega) (by omega) slice_to) (fun a hF => ?_)
  refine vp_y hF rfl rfl rfl rfl (by decide) _ (fun x hx => y_field rfl Tryd.underlying64 rfl sz36_t4 (by decide) rfl (rfl : (⟨_, 0 + _, none⟩ : Addr) = ⟨_, 36, none⟩)) (fun a hF => ?_)
  refine vp_y hF rfl rfl rfl rfl (by decide) _ (fun x hx => y_sliceArr rfl Tryd.underlying36 ow_size5 rfl (.none 0) (.none 32) (by omega) (by omega) slice_to) (fun a hF => ?_)
  refine vp_l rfl rfl rfl (fun K hK => ws_bs2 hF rfl (by decide) rfl hA1.drew rfl rfl (tb_part2 _ _ _ _ _ _) (fun b2 w2 a hb2 hF hA2 => hK _ _ (fun _ => hA2.drop (.cons _ (.refl _)) (fun r hr hlt => by rcases List.mem_cons.1 hr with e | h; (subst e; have := hA1.drew.size; simp only at hlt; omega); exact h)) ?_))
  clear hK K
  have hnr : ∀ r ∈ [((b2, 24, [.slice (some ⟨g, 4, none⟩) 32 32, .slice (some ⟨g, 36, none⟩) 32 32]) : Row), (g, 64, PC pw pd pc ph X Y (.slice PA p.length cp) pq)], w.heap.size ≤ r.1 := cons_new (by have := hA1.drew.size; omega) (one_new hg)
  have hP : Pieces w2 (some ⟨b2, 0, none⟩) [(some ⟨g, 4, none⟩, 32, X), (some ⟨g, 36, none⟩, 32, Y)] := Pieces.row hA2 (k := 0) (by rw [List.map_cons, List.map_cons, hX, hY]; rfl) (fun A' c' l' h => by
    rcases List.mem_cons.1 h with h | h
    · obtain ⟨rfl, rfl, rfl⟩ : A' = some ⟨g, 4, none⟩ ∧ c' = 32 ∧ l' = X := by simpa using h
      exact ⟨by omega, Bts.row hA2 (k := 1) rfl (by rw [hX]; exact pc_A hX)⟩
    · obtain ⟨rfl, rfl, rfl⟩ : A' = some ⟨g, 36, none⟩ ∧ c' = 32 ∧ l' = Y := by simpa using h
      exact ⟨by omega, Bts.row hA2 (k := 1) rfl (by rw [hY]; exact pc_B hX hY)⟩)
  refine vp_l rfl rfl rfl (fun K hK => ws_call hF rfl (by decide) cl49_t4 rfl rfl ?_)
  with_reducible refine (text_any w2 2 2 rfl (some ⟨b2, 0, none⟩) _ 2 2 rfl hP (by rw [flat_two, List.length_append]; omega) (by decide)).mono ?_
  rintro e' w3 ⟨v3, Y3, rfl, hO3, hc3⟩
  refine ⟨_, rfl, fun a hF => hK _ _ (fun h => absurd h (by decide)) ?_⟩; clear hK K
  rw [flat_two] at hO3
  have hA3 := hA2.thenNew hc3 hO3.new
  have hOw := hO3.weaken hA2.size
  refine vp_ly hF rfl rfl rfl rfl (by decide) _ (y_assign rfl rfl) (fun h => absurd h (by decide)) (fun a hF => ?_)
  refine plan_end ?_
  refine hK7 _ _ ?_; clear  hK7 K7
  apply wp_ret
  simp only [Exit.then, Exit.inBlock]
  refine vc_ret1 hF Tryd.results54 rfl ?_
  exact ⟨v3, Y3, rfl, hOw, hA3.dropNew (List.sublist_append_left _ _) (all_new hOw.new hnr)⟩

set_option maxRecDepth 100000 in
set_option maxHeartbeats 1000000 in
theorem texts_4 (w : World) (pw pd pc ph : Int) (X Y : List UInt8) (PA : Option Addr) (p : List UInt8) (cp : Nat) (pq : Value) (hX : X.length = 32) (hY : Y.length = 32) (hcp : p.length ≤ cp) (hB : Bts w PA p) (hp : p.length < 140737488353000) :
    Calls Tryd.prog 54 #[.int .i64 4, .agg (PC pw pd pc ph X Y (.slice PA p.length cp) pq).toArray] w fun e w' => ∃ v Y0, e = .returned v ∧ Own w 5 1 Y0 v (textL 4 pc X Y p).length (dc (textL 4 pc X Y p)) ∧ At w Y0 w' := by
  have hA0 := At.refl w
  refine vc_enter Tryd.func54 rfl Tryd.ntmps54 (Nat.le_of_ble_eq_true rfl) (fun a hF => ?_)
  apply wp_seq_k; intro K1 hK1
  refine wp_region_lit ?_
  refine vc_op rfl (fun K hK => ws_box (cs := PC pw pd pc ph X Y (.slice PA p.length cp) pq) hF rfl (by decide) rfl hA0 rfl (fun g w1 a hg hF hA1 => hK _ _ ?_))
  clear hK K
  refine vc_y hF rfl rfl (by decide) _ (y_assign rfl rfl) (fun a hF => ?_)
  refine vc_nil ?_
  refine hK1 _ _ ?_; clear  hK1 K1
  apply wp_seq_k; intro K2 hK2
  apply wp_seq_k; intro K3 hK3
  refine wp_region_lit ?_
  refine vc_y hF rfl rfl (by decide) _ (y_move rfl rfl) (fun a hF => ?_)
  refine vc_nil ?_
  refine hK3 _ _ ?_; clear  hK3 K3
  apply wp_block
  apply wp_seq_k; intro K4 hK4
  refine wp_region_lit ?_
  refine vc_y hF rfl rfl (by decide) _ (y_cmp (c := false) rfl rfl rfl rfl rfl) (fun a hF => ?_)
  refine vc_y hF rfl rfl (by decide) _ (y_assign rfl rfl) (fun a hF => ?_)
  refine vc_nil ?_
  refine hK4 _ _ ?_; clear  hK4 K4
  refine vc_false hF rfl ?_
  apply wp_seq_k; intro K5 hK5
  refine wp_region_lit ?_
  refine vc_y hF rfl rfl (by decide) _ (y_cmp (c := false) rfl rfl rfl rfl rfl) (fun a hF => ?_)
  refine vc_y hF rfl rfl (by decide) _ (y_assign rfl rfl) (fun a hF => ?_)
  refine vc_nil ?_
  refine hK5 _ _ ?_; clear  hK5 K5
  refine vc_false hF rfl ?_
  apply wp_seq_k; intro K6 hK6
  refine wp_region_lit ?_
  refine vc_y hF rfl rfl (by decide) _ (y_cmp (c := false) rfl rfl rfl rfl rfl) (fun a hF => ?_)
  refine vc_y hF rfl rfl (by decide) _ (y_assign rfl rfl) (fun a hF => ?_)
  refine vc_nil ?_
  refine hK6 _ _ ?_; clear  hK6 K6
  refine vc_false hF rfl ?_
  apply wp_seq_k; intro K7 hK7
  refine wp_region_lit ?_
  refine vc_y hF rfl rfl (by decide) _ (y_cmp (c := true) rfl rfl rfl rfl rfl) (fun a hF => ?_)
  refine vc_y hF rfl rfl (by decide) _ (y_assign rfl rfl) (fun a hF => ?_)
  refine vc_nil ?_
  refine hK7 _ _ ?_; clear  hK7 K7
  refine vc_true hF rfl ?_
  apply wp_seq_k; intro K8 hK8
  refine wp_region_plan 8 [4,7,8,9] [0,1,2,3,5,6,4,7,8,9] (fun x => At w [(g, 64, PC pw pd pc ph X Y (.slice PA p.length cp) pq)] x) (by kernel_rfl) (by kernel_rfl) (hA1.drew) ?_
  refine vp_y hF rfl rfl rfl rfl (by decide) _ (fun x hx => y_field rfl Tryd.underlying64 rfl sz36_t4 (by decide) rfl (rfl : (⟨_, 0 + _, none⟩ : Addr) = ⟨_, 4, none⟩)) (fun a hF => ?_)
  refine vp_y hF rfl rfl rfl rfl (by decide) _ (fun x hx => y_sliceArr rfl Tryd.underlying36 ow_size5 rfl (.none 0) (.none 32) (by omega) (by omega) slice_to) (fun a hF => ?_)
  refine vp_y hF rfl rfl rfl rfl (by decide) _ (fun x hx => y_field rfl Tryd.underlying64 rfl sz3_t4 (by decide) rfl (rfl : (⟨_, 0 + _, none⟩ : Addr) = ⟨_, 2, none⟩)) (fun a hF => ?_)
  refine vp_y hF rfl rfl rfl rfl (by decide) _ (fun x hx => y_loadAt rfl hx rfl 0 rfl pc_C tb_noInt) (fun a hF => ?_)
  refine vp_y hF rfl rfl rfl rfl (by decide) _ (fun x hx => y_field rfl Tryd.underlying64 rfl sz36_t4 (by decide) rfl (rfl : (⟨_, 0 + _, none⟩ : Addr) = ⟨_, 36, none⟩)) (fun a hF => ?_)
  refine vp_y hF rfl rfl rfl rfl (by decide) _ (fun x hx => y_sliceArr rfl Tryd.underlying36 ow_size5 rfl (.none 0) (.none 32) (by omega) (by omega) slice_to) (fun a hF => ?_)
  refine vp_l rfl rfl rfl (fun K hK => ws_call hF rfl (by decide) cl73_t4 rfl rfl ?_)
  with_reducible refine (eight_any _ pc).mono ?_
  rintro e' w2 ⟨b8, rfl, hb8, hc2⟩
  refine ⟨_, rfl, fun a hF => hK _ _ (fun _ => (hA1.drew.thenNew hc2 (one_new hb8)).drop (.cons _ (.refl _)) (fun r hr hlt => by rcases List.mem_cons.1 hr with e | h; (subst e; have := hA1.drew.size; simp only at hlt; omega); exact h)) ?_⟩; clear hK K
  have hA2 : At w [(b8, 5, dc (be 8 (c64 pc))), (g, 64, PC pw pd pc ph X Y (.slice PA p.length cp) pq)] w2 := hA1.drew.thenNew hc2 (one_new hb8)
  have q8 : w.heap.size ≤ b8 := by have := hA1.drew.size; omega
  refine vp_l rfl rfl rfl (fun K hK => ws_bs3 hF rfl (by decide) rfl hA2 rfl rfl rfl (tb_part3 _ _ _ _ _ _ _ _ _) (fun b3 w3 a hb3 hF hA3b => hK _ _ (fun _ => hA3b.drop (.cons _ (.cons _ (.refl _))) (fun r hr hlt => by rcases List.mem_cons.1 hr with e | h; (subst e; have := hA2.size; simp only at hlt; omega); rcases List.mem_cons.1 h with e | h; (subst e; simp only at hlt; omega); exact h)) ?_))
  clear hK K
  have hnr : ∀ r ∈ [((b3, 24, [.slice (some ⟨g, 4, none⟩) 32 32, .slice (some ⟨b8, 0, none⟩) 8 8, .slice (some ⟨g, 36, none⟩) 32 32]) : Row), (b8, 5, dc (be 8 (c64 pc))), (g, 64, PC pw pd pc ph X Y (.slice PA p.length cp) pq)], w.heap.size ≤ r.1 := cons_new (by have := hA2.size; omega) (cons_new q8 (one_new hg))
  have hP : Pieces w3 (some ⟨b3, 0, none⟩) [(some ⟨g, 4, none⟩, 32, X), (some ⟨b8, 0, none⟩, 8, be 8 (c64 pc)), (some ⟨g, 36, none⟩, 32, Y)] := Pieces.row hA3b (k := 0) (by rw [List.map_cons, List.map_cons, List.map_cons, hX, hY]; rfl) (fun A' c' l' h => by
    rcases List.mem_cons.1 h with h | h
    · obtain ⟨rfl, rfl, rfl⟩ : A' = some ⟨g, 4, none⟩ ∧ c' = 32 ∧ l' = X := by simpa using h
      exact ⟨by omega, Bts.row hA3b (k := 2) rfl (by rw [hX]; exact pc_A hX)⟩
    · rcases List.mem_cons.1 h with h | h
      · obtain ⟨rfl, rfl, rfl⟩ : A' = some ⟨b8, 0, none⟩ ∧ c' = 8 ∧ l' = be 8 (c64 pc) := by simpa using h
        exact ⟨by simp [be], Bts.row hA3b (k := 1) rfl (by rw [List.drop_zero]; exact List.take_of_length_le (by rw [dc_length]; exact Nat.le_refl _))⟩
      · obtain ⟨rfl, rfl, rfl⟩ : A' = some ⟨g, 36, none⟩ ∧ c' = 32 ∧ l' = Y := by simpa using h
        exact ⟨by omega, Bts.row hA3b (k := 2) rfl (by rw [hY]; exact pc_B hX hY)⟩)
  refine vp_l rfl rfl rfl (fun K hK => ws_call hF rfl (by decide) cl49_t4 rfl rfl ?_)
  with_reducible refine (text_any w3 3 3 rfl (some ⟨b3, 0, none⟩) _ 3 3 rfl hP (by rw [flat_three, List.length_append, List.length_append, hX, hY]; simp [be]) (by decide)).mono ?_
  rintro e' w4 ⟨v3, Y3, rfl, hO3, hc3⟩
  refine ⟨_, rfl, fun a hF => hK _ _ (fun h => absurd h (by decide)) ?_⟩; clear hK K
  rw [flat_three] at hO3
  have hA3 := hA3b.thenNew hc3 hO3.new
  have hOw := hO3.weaken hA3b.size
  refine vp_ly hF rfl rfl rfl rfl (by decide) _ (y_assign rfl rfl) (fun h => absurd h (by decide)) (fun a hF => ?_)
  refine plan_end ?_
  refine hK8 _ _ ?_; clear  hK8 K8
  apply wp_ret
  simp only [Exit.then, Exit.inBlock]
  refine vc_ret1 hF Tryd.results54 rfl ?_
  exact ⟨v3, Y3, rfl, hOw, hA3.dropNew (List.sublist_append_left _ _) (all_new hOw.new hnr)⟩

set_option maxRecDepth 100000 in
set_option maxHeartbeats 1000000 in
theorem texts_5 (w : World) (pw pd pc ph : Int) (X Y : List UInt8) (PA : Option Addr) (p : List UInt8) (cp : Nat) (pq : Value) (hX : X.length = 32) (hY : Y.length = 32) (hcp : p.length ≤ cp) (hB : Bts w PA p) (hp : p.length < 140737488353000) :
    Calls Tryd.prog 54 #[.int .i64 5, .agg (PC pw pd pc ph X Y (.slice PA p.length cp) pq).toArray] w fun e w' => ∃ v Y0, e = .returned v ∧ Own w 5 1 Y0 v (textL 5 pc X Y p).length (dc (textL 5 pc X Y p)) ∧ At w Y0 w' := by
  have hA0 := At.refl w
  refine vc_enter Tryd.func54 rfl Tryd.ntmps54 (Nat.le_of_ble_eq_true rfl) (fun a hF => ?_)
  apply wp_seq_k; intro K1 hK1
  refine wp_region_lit ?_
  refine vc_op rfl (fun K hK => ws_box (cs := PC pw pd pc ph X Y (.slice PA p.length cp) pq) hF rfl (by decide) rfl hA0 rfl (fun g w1 a hg hF hA1 => hK _ _ ?_))
  clear hK K
  refine vc_y hF rfl rfl (by decide) _ (y_assign rfl rfl) (fun a hF => ?_)
  refine vc_nil ?_
  refine hK1 _ _ ?_; clear  hK1 K1
  apply wp_seq_k; intro K2 hK2
  apply wp_seq_k; intro K3 hK3
  refine wp_region_lit ?_
  refine vc_y hF rfl rfl (by decide) _ (y_move rfl rfl) (fun a hF => ?_)
  refine vc_nil ?_
  refine hK3 _ _ ?_; clear  hK3 K3
  apply wp_block
  apply wp_seq_k; intro K4 hK4
  refine wp_region_lit ?_
  refine vc_y hF rfl rfl (by decide) _ (y_cmp (c := false) rfl rfl rfl rfl rfl) (fun a hF => ?_)
  refine vc_y hF rfl rfl (by decide) _ (y_assign rfl rfl) (fun a hF => ?_)
  refine vc_nil ?_
  refine hK4 _ _ ?_; clear  hK4 K4
  refine vc_false hF rfl ?_
  apply wp_seq_k; intro K5 hK5
  refine wp_region_lit ?_
  refine vc_y hF rfl rfl (by decide) _ (y_cmp (c := false) rfl rfl rfl rfl rfl) (fun a hF => ?_)
  refine vc_y hF rfl rfl (by decide) _ (y_assign rfl rfl) (fun a hF => ?_)
  refine vc_nil ?_
  refine hK5 _ _ ?_; clear  hK5 K5
  refine vc_false hF rfl ?_
  apply wp_seq_k; intro K6 hK6
  refine wp_region_lit ?_
  refine vc_y hF rfl rfl (by decide) _ (y_cmp (c := false) rfl rfl rfl rfl rfl) (fun a hF => ?_)
  refine vc_y hF rfl rfl (by decide) _ (y_assign rfl rfl) (fun a hF => ?_)
  refine vc_nil ?_
  refine hK6 _ _ ?_; clear  hK6 K6
  refine vc_false hF rfl ?_
  apply wp_seq_k; intro K7 hK7
  refine wp_region_lit ?_
  refine vc_y hF rfl rfl (by decide) _ (y_cmp (c := false) rfl rfl rfl rfl rfl) (fun a hF => ?_)
  refine vc_y hF rfl rfl (by decide) _ (y_assign rfl rfl) (fun a hF => ?_)
  refine vc_nil ?_
  refine hK7 _ _ ?_; clear  hK7 K7
  refine vc_false hF rfl ?_
  apply wp_seq_k; intro K8 hK8
  refine wp_region_lit ?_
  refine vc_y hF rfl rfl (by decide) _ (y_cmp (c := true) rfl rfl rfl rfl rfl) (fun a hF => ?_)
  refine vc_y hF rfl rfl (by decide) _ (y_assign rfl rfl) (fun a hF => ?_)
  refine vc_nil ?_
  refine hK8 _ _ ?_; clear  hK8 K8
  refine vc_true hF rfl ?_
  apply wp_seq_k; intro K9 hK9
  refine wp_region_plan 5 [4,5,6] [0,1,2,3,4,5,6] (fun x => At w [(g, 64, PC pw pd pc ph X Y (.slice PA p.length cp) pq)] x) (by kernel_rfl) (by kernel_rfl) (hA1.drew) ?_
  refine vp_y hF rfl rfl rfl rfl (by decide) _ (fun x hx => y_field rfl Tryd.underlying64 rfl sz36_t4 (by decide) rfl (rfl : (⟨_, 0 + _, none⟩ : Addr) = ⟨_, 4, none⟩)) (fun a hF => ?_)
  refine vp_y hF rfl rfl rfl rfl (by decide) _ (fun x hx => y_sliceArr rfl Tryd.underlying36 ow_size5 rfl (.none 0) (.none 32) (by omega) (by omega) slice_to) (fun a hF => ?_)
  refine vp_y hF rfl rfl rfl rfl (by decide) _ (fun x hx => y_field rfl Tryd.underlying64 rfl sz36_t4 (by decide) rfl (rfl : (⟨_, 0 + _, none⟩ : Addr) = ⟨_, 36, none⟩)) (fun a hF => ?_)
  refine vp_y hF rfl rfl rfl rfl (by decide) _ (fun x hx => y_sliceArr rfl Tryd.underlying36 ow_size5 rfl (.none 0) (.none 32) (by omega) (by omega) slice_to) (fun a hF => ?_)
  refine vp_l rfl rfl rfl (fun K hK => ws_bs2 hF rfl (by decide) rfl hA1.drew rfl rfl (tb_part2 _ _ _ _ _ _) (fun b2 w2 a hb2 hF hA2 => hK _ _ (fun _ => hA2.drop (.cons _ (.refl _)) (fun r hr hlt => by rcases List.mem_cons.1 hr with e | h; (subst e; have := hA1.drew.size; simp only at hlt; omega); exact h)) ?_))
  clear hK K
  have hnr : ∀ r ∈ [((b2, 24, [.slice (some ⟨g, 4, none⟩) 32 32, .slice (some ⟨g, 36, none⟩) 32 32]) : Row), (g, 64, PC pw pd pc ph X Y (.slice PA p.length cp) pq)], w.heap.size ≤ r.1 := cons_new (by have := hA1.drew.size; omega) (one_new hg)
  have hP : Pieces w2 (some ⟨b2, 0, none⟩) [(some ⟨g, 4, none⟩, 32, X), (some ⟨g, 36, none⟩, 32, Y)] := Pieces.row hA2 (k := 0) (by rw [List.map_cons, List.map_cons, hX, hY]; rfl) (fun A' c' l' h => by
    rcases List.mem_cons.1 h with h | h
    · obtain ⟨rfl, rfl, rfl⟩ : A' = some ⟨g, 4, none⟩ ∧ c' = 32 ∧ l' = X := by simpa using h
      exact ⟨by omega, Bts.row hA2 (k := 1) rfl (by rw [hX]; exact pc_A hX)⟩
    · obtain ⟨rfl, rfl, rfl⟩ : A' = some ⟨g, 36, none⟩ ∧ c' = 32 ∧ l' = Y := by simpa using h
      exact ⟨by omega, Bts.row hA2 (k := 1) rfl (by rw [hY]; exact pc_B hX hY)⟩)
  refine vp_l rfl rfl rfl (fun K hK => ws_call hF rfl (by decide) cl49_t4 rfl rfl ?_)
  with_reducible refine (text_any w2 4 4 rfl (some ⟨b2, 0, none⟩) _ 2 2 rfl hP (by rw [flat_two, List.length_append]; omega) (by decide)).mono ?_
  rintro e' w3 ⟨v3, Y3, rfl, hO3, hc3⟩
  refine ⟨_, rfl, fun a hF => hK _ _ (fun h => absurd h (by decide)) ?_⟩; clear hK K
  rw [flat_two] at hO3
  have hA3 := hA2.thenNew hc3 hO3.new
  have hOw := hO3.weaken hA2.size
  refine vp_ly hF rfl rfl rfl rfl (by decide) _ (y_assign rfl rfl) (fun h => absurd h (by decide)) (fun a hF => ?_)
  refine plan_end ?_
  refine hK9 _ _ ?_; clear  hK9 K9
  apply wp_ret
  simp only [Exit.then, Exit.inBlock]
  refine vc_ret1 hF Tryd.results54 rfl ?_
  exact ⟨v3, Y3, rfl, hOw, hA3.dropNew (List.sublist_append_left _ _) (all_new hOw.new hnr)⟩

set_option maxRecDepth 100000 in
set_option maxHeartbeats 1000000 in
theorem texts_6 (w : World) (pw pd pc ph : Int) (X Y : List UInt8) (PA : Option Addr) (p : List UInt8) (cp : Nat) (pq : Value) (hX : X.length = 32) (hY : Y.length = 32) (hcp : p.length ≤ cp) (hB : Bts w PA p) (hp : p.length < 140737488353000) :
    Calls Tryd.prog 54 #[.int .i64 6, .agg (PC pw pd pc ph X Y (.slice PA p.length cp) pq).toArray] w fun e w' => ∃ v Y0, e = .returned v ∧ Own w 5 1 Y0 v (textL 6 pc X Y p).length (dc (textL 6 pc X Y p)) ∧ At w Y0 w' := by
  have hA0 := At.refl w
  refine vc_enter Tryd.func54 rfl Tryd.ntmps54 (Nat.le_of_ble_eq_true rfl) (fun a hF => ?_)
  apply wp_seq_k; intro K1 hK1
  refine wp_region_lit ?_
  refine vc_op rfl (fun K hK => ws_box (cs := PC pw pd pc ph X Y (.slice PA p.length cp) pq) hF rfl (by decide) rfl hA0 rfl (fun g w1 a hg hF hA1 => hK _ _ ?_))
  clear hK K
  refine vc_y hF rfl rfl (by decide) _ (y_assign rfl rfl) (fun a hF => ?_)
  refine vc_nil ?_
  refine hK1 _ _ ?_; clear  hK1 K1
  apply wp_seq_k; intro K2 hK2
  apply wp_seq_k; intro K3 hK3
  refine wp_region_lit ?_
  refine vc_y hF rfl rfl (by decide) _ (y_move rfl rfl) (fun a hF => ?_)
  refine vc_nil ?_
  refine hK3 _ _ ?_; clear  hK3 K3
  apply wp_block
  apply wp_seq_k; intro K4 hK4
  refine wp_region_lit ?_
  refine vc_y hF rfl rfl (by decide) _ (y_cmp (c := false) rfl rfl rfl rfl rfl) (fun a hF => ?_)
  refine vc_y hF rfl rfl (by decide) _ (y_assign rfl rfl) (fun a hF => ?_)
  refine vc_nil ?_
  refine hK4 _ _ ?_; clear  hK4 K4
  refine vc_false hF rfl ?_
  apply wp_seq_k; intro K5 hK5
  refine wp_region_lit ?_
  refine vc_y hF rfl rfl (by decide) _ (y_cmp (c := false) rfl rfl rfl rfl rfl) (fun a hF => ?_)
  refine vc_y hF rfl rfl (by decide) _ (y_assign rfl rfl) (fun a hF => ?_)
  refine vc_nil ?_
  refine hK5 _ _ ?_; clear  hK5 K5
  refine vc_false hF rfl ?_
  apply wp_seq_k; intro K6 hK6
  refine wp_region_lit ?_
  refine vc_y hF rfl rfl (by decide) _ (y_cmp (c := false) rfl rfl rfl rfl rfl) (fun a hF => ?_)
  refine vc_y hF rfl rfl (by decide) _ (y_assign rfl rfl) (fun a hF => ?_)
  refine vc_nil ?_
  refine hK6 _ _ ?_; clear  hK6 K6
  refine vc_false hF rfl ?_
  apply wp_seq_k; intro K7 hK7
  refine wp_region_lit ?_
  refine vc_y hF rfl rfl (by decide) _ (y_cmp (c := false) rfl rfl rfl rfl rfl) (fun a hF => ?_)
  refine vc_y hF rfl rfl (by decide) _ (y_assign rfl rfl) (fun a hF => ?_)
  refine vc_nil ?_
  refine hK7 _ _ ?_; clear  hK7 K7
  refine vc_false hF rfl ?_
  apply wp_seq_k; intro K8 hK8
  refine wp_region_lit ?_
  refine vc_y hF rfl rfl (by decide) _ (y_cmp (c := false) rfl rfl rfl rfl rfl) (fun a hF => ?_)
  refine vc_y hF rfl rfl (by decide) _ (y_assign rfl rfl) (fun a hF => ?_)
  refine vc_nil ?_
  refine hK8 _ _ ?_; clear  hK8 K8
  refine vc_false hF rfl ?_
  apply wp_seq_k; intro K9 hK9
  refine wp_region_lit ?_
  refine vc_y hF rfl rfl (by decide) _ (y_cmp (c := true) rfl rfl rfl rfl rfl) (fun a hF => ?_)
  refine vc_y hF rfl rfl (by decide) _ (y_assign rfl rfl) (fun a hF => ?_)
  refine vc_nil ?_
  refine hK9 _ _ ?_; clear  hK9 K9
  refine vc_true hF rfl ?_
  apply wp_seq_k; intro K10 hK10
  refine wp_region_lit ?_
  refine vc_op rfl (fun K hK => ws_call hF rfl (by decide) cl49_t4 rfl rfl ?_)
  with_reducible refine (text_any w1 5 5 rfl none [] 0 0 rfl (Pieces.nil _) (by decide) (by decide)).mono ?_
  rintro e' w2 ⟨v3, Y3, rfl, hO3, hc3⟩
  refine ⟨_, rfl, fun a hF => hK _ _ ?_⟩; clear hK K
  have hA3 := hA1.thenNew hc3 hO3.new
  have hOw := hO3.weaken hA1.size
  have hnr := one_new (t := 64) (cs := PC pw pd pc ph X Y (.slice PA p.length cp) pq) hg
  refine vc_y hF rfl rfl (by decide) _ (y_assign rfl rfl) (fun a hF => ?_)
  refine vc_nil ?_
  refine hK10 _ _ ?_; clear  hK10 K10
  apply wp_ret
  simp only [Exit.then, Exit.inBlock]
  refine vc_ret1 hF Tryd.results54 rfl ?_
  exact ⟨v3, Y3, rfl, hOw, hA3.dropNew (List.sublist_append_left _ _) (all_new hOw.new hnr)⟩

set_option maxRecDepth 100000 in
set_option maxHeartbeats 1000000 in
theorem texts_7 (w : World) (pw pd pc ph : Int) (X Y : List UInt8) (PA : Option Addr) (p : List UInt8) (cp : Nat) (pq : Value) (hX : X.length = 32) (hY : Y.length = 32) (hcp : p.length ≤ cp) (hB : Bts w PA p) (hp : p.length < 140737488353000) :
    Calls Tryd.prog 54 #[.int .i64 7, .agg (PC pw pd pc ph X Y (.slice PA p.length cp) pq).toArray] w fun e w' => ∃ v Y0, e = .returned v ∧ Own w 5 1 Y0 v (textL 7 pc X Y p).length (dc (textL 7 pc X Y p)) ∧ At w Y0 w' := by
  have hA0 := At.refl w
  refine vc_enter Tryd.func54 rfl Tryd.ntmps54 (Nat.le_of_ble_eq_true rfl) (fun a hF => ?_)
  apply wp_seq_k; intro K1 hK1
  refine wp_region_lit ?_
  refine vc_op rfl (fun K hK => ws_box (cs := PC pw pd pc ph X Y (.slice PA p.length cp) pq) hF rfl (by decide) rfl hA0 rfl (fun g w1 a hg hF hA1 => hK _ _ ?_))
  clear hK K
  refine vc_y hF rfl rfl (by decide) _ (y_assign rfl rfl) (fun a hF => ?_)
  refine vc_nil ?_
  refine hK1 _ _ ?_; clear  hK1 K1
  apply wp_seq_k; intro K2 hK2
  apply wp_seq_k; intro K3 hK3
  refine wp_region_lit ?_
  refine vc_y hF rfl rfl (by decide) _ (y_move rfl rfl) (fun a hF => ?_)
  refine vc_nil ?_
  refine hK3 _ _ ?_; clear  hK3 K3
  apply wp_block
  apply wp_seq_k; intro K4 hK4
  refine wp_region_lit ?_
  refine vc_y hF rfl rfl (by decide) _ (y_cmp (c := false) rfl rfl rfl rfl rfl) (fun a hF => ?_)
  refine vc_y hF rfl rfl (by decide) _ (y_assign rfl rfl) (fun a hF => ?_)
  refine vc_nil ?_
  refine hK4 _ _ ?_; clear  hK4 K4
  refine vc_false hF rfl ?_
  apply wp_seq_k; intro K5 hK5
  refine wp_region_lit ?_
  refine vc_y hF rfl rfl (by decide) _ (y_cmp (c := false) rfl rfl rfl rfl rfl) (fun a hF => ?_)
  refine vc_y hF rfl rfl (by decide) _ (y_assign rfl rfl) (fun a hF => ?_)
  refine vc_nil ?_
  refine hK5 _ _ ?_; clear  hK5 K5
  refine vc_false hF rfl ?_
  apply wp_seq_k; intro K6 hK6
  refine wp_region_lit ?_
  refine vc_y hF rfl rfl (by decide) _ (y_cmp (c := false) rfl rfl rfl rfl rfl) (fun a hF => ?_)
  refine vc_y hF rfl rfl (by decide) _ (y_assign rfl rfl) (fun a hF => ?_)
  refine vc_nil ?_
  refine hK6 _ _ ?_; clear  hK6 K6
  refine vc_false hF rfl ?_
  apply wp_seq_k; intro K7 hK7
  refine wp_region_lit ?_
  refine vc_y hF rfl rfl (by decide) _ (y_cmp (c := false) rfl rfl rfl rfl rfl) (fun a hF => ?_)
  refine vc_y hF rfl rfl (by decide) _ (y_assign rfl rfl) (fun a hF => ?_)
  refine vc_nil ?_
  refine hK7 _ _ ?_; clear  hK7 K7
  refine vc_false hF rfl ?_
  apply wp_seq_k; intro K8 hK8
  refine wp_region_lit ?_
  refine vc_y hF rfl rfl (by decide) _ (y_cmp (c := false) rfl rfl rfl rfl rfl) (fun a hF => ?_)
  refine vc_y hF rfl rfl (by decide) _ (y_assign rfl rfl) (fun a hF => ?_)
  refine vc_nil ?_
  refine hK8 _ _ ?_; clear  hK8 K8
  refine vc_false hF rfl ?_
  apply wp_seq_k; intro K9 hK9
  refine wp_region_lit ?_
  refine vc_y hF rfl rfl (by decide) _ (y_cmp (c := false) rfl rfl rfl rfl rfl) (fun a hF => ?_)
  refine vc_y hF rfl rfl (by decide) _ (y_assign rfl rfl) (fun a hF => ?_)
  refine vc_nil ?_
  refine hK9 _ _ ?_; clear  hK9 K9
  refine vc_false hF rfl ?_
  apply wp_seq_k; intro K10 hK10
  refine wp_region_lit ?_
  refine vc_y hF rfl rfl (by decide) _ (y_cmp (c := true) rfl rfl rfl rfl rfl) (fun a hF => ?_)
  refine vc_y hF rfl rfl (by decide) _ (y_assign rfl rfl) (fun a hF => ?_)
  refine vc_nil ?_
  refine hK10 _ _ ?_; clear  hK10 K10
  refine vc_true hF rfl ?_
  apply wp_seq_k; intro K11 hK11
  refine wp_region_lit ?_
  refine vc_y hF rfl rfl (by decide) _ (y_field rfl Tryd.underlying64 rfl sz24_t4 (by decide) rfl (rfl : (⟨_, 0 + _, none⟩ : Addr) = ⟨_, 68, none⟩)) (fun a hF => ?_)
  refine vc_y hF rfl rfl (by decide) _ (y_loadAt rfl hA1 rfl 0 rfl (pc_P hX hY) ow_no24) (fun a hF => ?_)
  refine vc_op rfl (fun K hK => ws_bs1 hF rfl (by decide) rfl hA1 rfl (tb_part1 _ _ _) (fun b2 w2 a hb2 hF hA2 => hK _ _ ?_))
  clear hK K
  have hnr : ∀ r ∈ [((b2, 24, [.slice PA p.length cp]) : Row), (g, 64, PC pw pd pc ph X Y (.slice PA p.length cp) pq)], w.heap.size ≤ r.1 := cons_new (by have := hA1.size; omega) (one_new hg)
  have hP : Pieces w2 (some ⟨b2, 0, none⟩) [(PA, cp, p)] := Pieces.row hA2 (k := 0) rfl (fun A' c' l' h => by
    obtain ⟨rfl, rfl, rfl⟩ : A' = PA ∧ c' = cp ∧ l' = p := by simpa using h
    exact ⟨hcp, hB.fresh hA2 hnr⟩)
  refine vc_op rfl (fun K hK => ws_call hF rfl (by decide) cl49_t4 rfl rfl ?_)
  with_reducible refine (text_any w2 6 6 rfl (some ⟨b2, 0, none⟩) _ 1 1 rfl hP (by rw [flat_one]; omega) (by decide)).mono ?_
  rintro e' w3 ⟨v3, Y3, rfl, hO3, hc3⟩
  refine ⟨_, rfl, fun a hF => hK _ _ ?_⟩; clear hK K
  rw [flat_one] at hO3
  have hA3 := hA2.thenNew hc3 hO3.new
  have hOw := hO3.weaken hA2.size
  refine vc_y hF rfl rfl (by decide) _ (y_assign rfl rfl) (fun a hF => ?_)
  refine vc_nil ?_
  refine hK11 _ _ ?_; clear  hK11 K11
  apply wp_ret
  simp only [Exit.then, Exit.inBlock]
  refine vc_ret1 hF Tryd.results54 rfl ?_
  exact ⟨v3, Y3, rfl, hOw, hA3.dropNew (List.sublist_append_left _ _) (all_new hOw.new hnr)⟩

set_option maxRecDepth 100000 in
set_option maxHeartbeats 1000000 in
theorem texts_8 (w : World) (pw pd pc ph : Int) (X Y : List UInt8) (PA : Option Addr) (p : List UInt8) (cp : Nat) (pq : Value) (hX : X.length = 32) (hY : Y.length = 32) (hcp : p.length ≤ cp) (hB : Bts w PA p) (hp : p.length < 140737488353000) :
    Calls Tryd.prog 54 #[.int .i64 8, .agg (PC pw pd pc ph X Y (.slice PA p.length cp) pq).toArray] w fun e w' => ∃ v Y0, e = .returned v ∧ Own w 5 1 Y0 v (textL 8 pc X Y p).length (dc (textL 8 pc X Y p)) ∧ At w Y0 w' := by
  have hA0 := At.refl w
  refine vc_enter Tryd.func54 rfl Tryd.ntmps54 (Nat.le_of_ble_eq_true rfl) (fun a hF => ?_)
  apply wp_seq_k; intro K1 hK1
  refine wp_region_lit ?_
  refine vc_op rfl (fun K hK => ws_box (cs := PC pw pd pc ph X Y (.slice PA p.length cp) pq) hF rfl (by decide) rfl hA0 rfl (fun g w1 a hg hF hA1 => hK _ _ ?_))
  clear hK K
  refine vc_y hF rfl rfl (by decide) _ (y_assign rfl rfl) (fun a hF => ?_)
  refine vc_nil ?_
  refine hK1 _ _ ?_; clear  hK1 K1
  apply wp_seq_k; intro K2 hK2
  apply wp_seq_k; intro K3 hK3
  refine wp_region_lit ?_
  refine vc_y hF rfl rfl (by decide) _ (y_move rfl rfl) (fun a hF => ?_)
  refine vc_nil ?_
  refine hK3 _ _ ?_; clear  hK3 K3
  apply wp_block
  apply wp_seq_k; intro K4 hK4
  refine wp_region_lit ?_
  refine vc_y hF rfl rfl (by decide) _ (y_cmp (c := false) rfl rfl rfl rfl rfl) (fun a hF => ?_)
  refine vc_y hF rfl rfl (by decide) _ (y_assign rfl rfl) (fun a hF => ?_)
  refine vc_nil ?_
  refine hK4 _ _ ?_; clear  hK4 K4
  refine vc_false hF rfl ?_
  apply wp_seq_k; intro K5 hK5
  refine wp_region_lit ?_
  refine vc_y hF rfl rfl (by decide) _ (y_cmp (c := false) rfl rfl rfl rfl rfl) (fun a hF => ?_)
  refine vc_y hF rfl rfl (by decide) _ (y_assign rfl rfl) (fun a hF => ?_)
  refine vc_nil ?_
  refine hK5 _ _ ?_; clear  hK5 K5
  refine vc_false hF rfl ?_
  apply wp_seq_k; intro K6 hK6
  refine wp_region_lit ?_
  refine vc_y hF rfl rfl (by decide) _ (y_cmp (c := false) rfl rfl rfl rfl rfl) (fun a hF => ?_)
  refine vc_y hF rfl rfl (by decide) _ (y_assign rfl rfl) (fun a hF => ?_)
  refine vc_nil ?_
  refine hK6 _ _ ?_; clear  hK6 K6
  refine vc_false hF rfl ?_
  apply wp_seq_k; intro K7 hK7
  refine wp_region_lit ?_
  refine vc_y hF rfl rfl (by decide) _ (y_cmp (c := false) rfl rfl rfl rfl rfl) (fun a hF => ?_)
  refine vc_y hF rfl rfl (by decide) _ (y_assign rfl rfl) (fun a hF => ?_)
  refine vc_nil ?_
  refine hK7 _ _ ?_; clear  hK7 K7
  refine vc_false hF rfl ?_
  apply wp_seq_k; intro K8 hK8
  refine wp_region_lit ?_
  refine vc_y hF rfl rfl (by decide) _ (y_cmp (c := false) rfl rfl rfl rfl rfl) (fun a hF => ?_)
  refine vc_y hF rfl rfl (by decide) _ (y_assign rfl rfl) (fun a hF => ?_)
  refine vc_nil ?_
  refine hK8 _ _ ?_; clear  hK8 K8
  refine vc_false hF rfl ?_
  apply wp_seq_k; intro K9 hK9
  refine wp_region_lit ?_
  refine vc_y hF rfl rfl (by decide) _ (y_cmp (c := false) rfl rfl rfl rfl rfl) (fun a hF => ?_)
  refine vc_y hF rfl rfl (by decide) _ (y_assign rfl rfl) (fun a hF => ?_)
  refine vc_nil ?_
  refine hK9 _ _ ?_; clear  hK9 K9
  refine vc_false hF rfl ?_
  apply wp_seq_k; intro K10 hK10
  refine wp_region_lit ?_
  refine vc_y hF rfl rfl (by decide) _ (y_cmp (c := false) rfl rfl rfl rfl rfl) (fun a hF => ?_)
  refine vc_y hF rfl rfl (by decide) _ (y_assign rfl rfl) (fun a hF => ?_)
  refine vc_nil ?_
  refine hK10 _ _ ?_; clear  hK10 K10
  refine vc_false hF rfl ?_
  apply wp_skip
  refine hK2 _ _ ?_; clear  hK2 K2
  apply wp_seq_k; intro K11 hK11
  refine wp_region_lit ?_
  refine vc_y hF rfl rfl (by decide) _ (y_assign rfl rfl) (fun a hF => ?_)
  refine vc_nil ?_
  refine hK11 _ _ ?_; clear  hK11 K11
  apply wp_ret
  refine vc_ret1 hF Tryd.results54 rfl ?_
  exact ⟨_, [], rfl, Own.nil w 5 1, hA1.dropNew (List.nil_sublist _) (one_new hg)⟩
end Go.Proofs.YtppmhlkonemebaaDoor
