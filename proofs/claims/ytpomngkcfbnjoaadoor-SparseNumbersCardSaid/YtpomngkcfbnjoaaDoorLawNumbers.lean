/- The walk of SparseNumbers. -/
import Derived.Test.YtpomngkcfbnjoaaDoorSp9
import Derived.Test.YtpomngkcfbnjoaaDoorTg
namespace Go.Proofs.YtpomngkcfbnjoaaDoor
open Go.RowKit Go.Dk

theorem rs_rempties (w0 w : World) (R : List Seg) (width : Int) (hA : Hp w0 R w) : Calls Tryd.prog 47 #[.int .i64 width] w fun e w' => ∃ A c Z, e = .returned (.slice A 257 c) ∧ Rc w0 [Z] A (digs (emptyL width) 257) ∧ Hp w0 (Z :: R) w' := by
  refine (empties_any w width).mono ?_
  rintro e w' ⟨v, X, rfl, hO, hw⟩
  obtain ⟨g, c, Z, rfl, _, hg, rfl⟩ := own_row hO (by decide)
  exact ⟨some ⟨g, 0, none⟩, c, _, rfl, Rc.ofRow (i := 0) (off := 0) rfl (by rw [List.drop_zero]; exact List.take_left' rfl), hA.thenNew hw (new1 hg)⟩
theorem rs_len {l : List Itm} (h : ∀ i ∈ l, i.OK) : (cel Itm.cells l).length = l.length * 65 := cel_len (fun i hi => Itm.len (h i hi))
theorem rs_at {l : List Itm} (h : ∀ i ∈ l, i.OK) {n : Nat} {i : Itm} (hn : l[n]? = some i) : ((cel Itm.cells l).drop (n * 65)).take 65 = i.cells ∧ n * 65 + 65 ≤ (cel Itm.cells l).length := cel_at (fun i hi => Itm.len (h i hi)) hn
theorem take32 {W : List Value} {m : Nat} : (W.drop m).take 32 = ((W.drop m).take 65).take 32 := by rw [List.take_take]; rfl
theorem drop32 {W : List Value} {m : Nat} : (W.drop (m + 32)).take 33 = (((W.drop m).take 65).drop 32).take 33 := by
  rw [List.drop_take, List.take_take, List.drop_drop]; rfl
theorem rs_key {l : List Itm} (h : ∀ i ∈ l, i.OK) {n : Nat} {i : Itm} (hn : l[n]? = some i) : ((cel Itm.cells l).drop (n * 65)).take 32 = dc i.k := by
  rw [take32, (rs_at h hn).1]; exact Itm.c_key (h i (List.mem_of_getElem? hn))
theorem rs_ent {l : List Itm} (h : ∀ i ∈ l, i.OK) {n : Nat} {i : Itm} (hn : l[n]? = some i) : ((cel Itm.cells l).drop (n * 65 + 32)).take 33 = i.ent := by
  rw [drop32, (rs_at h hn).1]; exact Itm.c_ent (h i (List.mem_of_getElem? hn))
theorem tw_split {p : Itm → Bool} : ∀ {l : List Itm} {n : Nat}, n ≤ l.length → (∀ j i, j < n → l[j]? = some i → p i = true) → (∀ i, l[n]? = some i → p i = false) → l.takeWhile p = l.take n ∧ l.dropWhile p = l.drop n
  | [], n, hn, _, _ => by simp
  | i :: l, 0, _, _, h2 => by
    have h3 := h2 i rfl
    have h4 : ¬ p i = true := by rw [h3]; exact Bool.false_ne_true
    rw [List.takeWhile_cons_of_neg h4, List.dropWhile_cons_of_neg h4]; exact ⟨rfl, rfl⟩
  | i :: l, n + 1, hn, h1, h2 => by
    have h3 := h1 0 i (Nat.succ_pos _) rfl
    obtain ⟨e1, e2⟩ := tw_split (p := p) (l := l) (n := n) (by simpa using hn) (fun j i' hj hi => h1 (j + 1) i' (by omega) hi) (fun i' hi => h2 i' hi)
    rw [List.takeWhile_cons_of_pos h3, List.dropWhile_cons_of_pos h3, e1, e2]; exact ⟨rfl, rfl⟩
theorem subE_go {width : Int} {h : Nat} {l : List Itm} (hl : l ≠ []) : subE width (h + 1) l = branchL width (subE width h (l.takeWhile (zeroBit (255 - h)))) (subE width h (l.dropWhile (zeroBit (255 - h)))) := by
  cases l with
  | nil => exact absurd rfl hl
  | cons i l => exact subE_succ width h i l
theorem subE_length (width : Int) (h : Nat) (l : List Itm) : (subE width h l).length = 32 := by
  cases l with
  | nil => rw [subE_nil]; exact emptyL_length _ _
  | cons i l =>
    cases h with
    | zero => rw [subE_zero]; exact entryD_length _ _
    | succ h => rw [subE_succ]; exact branchL_length ..
theorem rs_take {w0 : World} {R : List Seg} {A : Option Addr} {l : List Itm} (n : Nat) (h : ∀ i ∈ l, i.OK) (hR : Rc w0 R A (cel Itm.cells l)) : Rc w0 R A (cel Itm.cells (l.take n)) := by
  have e : cel Itm.cells l = cel Itm.cells (l.take n) ++ cel Itm.cells (l.drop n) := by rw [← cel_append, List.take_append_drop]
  have h1 := hR.take (cel Itm.cells (l.take n)).length
  rw [e, List.take_left' rfl] at h1
  exact h1
theorem rs_drop {w0 : World} {R : List Seg} {A : Option Addr} {l : List Itm} (n c : Nat) (h : ∀ i ∈ l, i.OK) (hn : n ≤ l.length) (hc : l.length ≤ c) (hR : Rc w0 R A (cel Itm.cells l)) : Rc w0 R (sub A n c 65) (cel Itm.cells (l.drop n)) := by
  have h1 := hR.drop n 65 (cap := c) (by rw [rs_len h]; exact Nat.mul_le_mul_right _ hc)
  have e : cel Itm.cells l = cel Itm.cells (l.take n) ++ cel Itm.cells (l.drop n) := by rw [← cel_append, List.take_append_drop]
  have h2 : (cel Itm.cells (l.take n)).length = n * 65 := by rw [rs_len (fun i hi => h i (List.mem_of_mem_take hi)), List.length_take, Nat.min_eq_left hn]
  rw [e, List.drop_left' h2] at h1
  exact h1
set_option maxRecDepth 100000 in
theorem rs_item0 (f g : Nat → UInt8) (c : Int) (w : World) : (Instr.build 54 #[(0, .agg (dc ((List.range 32).map f)).toArray), (1, .agg (.int .i64 c :: dc ((List.range 32).map g)).toArray)]).run Tryd.prog w = .ok (.agg (Itm.cells ⟨(List.range 32).map f, c, (List.range 32).map g⟩).toArray) w := by kernel_rfl
theorem rs_item {i : Itm} (h : i.OK) (w : World) : (Instr.build 54 #[(0, .agg (dc i.k).toArray), (1, .agg (.int .i64 i.ct :: dc i.ch).toArray)]).run Tryd.prog w = .ok (.agg i.cells.toArray) w := by
  have h1 := rs_item0 (bAt i.k) (bAt i.ch) i.ct w
  rw [list32 h.k, list32 h.ch] at h1
  exact h1
set_option maxRecDepth 100000 in
theorem rs_slice0 (f g : Nat → UInt8) (c : Int) (w : World) : (Instr.buildSlice 55 1 #[(0, .agg (Itm.cells ⟨(List.range 32).map f, c, (List.range 32).map g⟩).toArray)]).run Tryd.prog w = .ok (.slice (some ⟨w.heap.size, 0, none⟩) 1 1) (w.alloc (.cells (Itm.cells ⟨(List.range 32).map f, c, (List.range 32).map g⟩).toArray 54)) := by kernel_rfl
theorem rs_slice {i : Itm} (h : i.OK) (w : World) : (Instr.buildSlice 55 1 #[(0, .agg i.cells.toArray)]).run Tryd.prog w = .ok (.slice (some ⟨w.heap.size, 0, none⟩) 1 1) (w.alloc (.cells i.cells.toArray 54)) := by
  have h1 := rs_slice0 (bAt i.k) (bAt i.ch) i.ct w
  rw [list32 h.k, list32 h.ch] at h1
  exact h1
theorem rw23_s10 : isRow Tryd.prog 23 32 = true := by kernel_rfl
theorem rw25_s10 : isRow Tryd.prog 25 33 = true := by kernel_rfl
theorem rw45_s10 : isRow Tryd.prog 45 2 = true := by kernel_rfl
theorem sz5_s10 : (Tryd.prog.info? 5).map (·.size) = some 1 := by kernel_rfl
theorem sz23_s10 : (Tryd.prog.info? 23).map (·.size) = some 32 := by kernel_rfl
theorem sz25_s10 : (Tryd.prog.info? 25).map (·.size) = some 33 := by kernel_rfl
theorem sz45_s10 : (Tryd.prog.info? 45).map (·.size) = some 2 := by kernel_rfl
theorem sz54_s10 : (Tryd.prog.info? 54).map (·.size) = some 65 := by kernel_rfl
theorem cl18_s10 : CallsTo Tryd.prog 18 := ⟨_, Tryd.func18, by kernel_rfl, by kernel_rfl⟩
theorem cl19_s10 : CallsTo Tryd.prog 19 := ⟨_, Tryd.func19, by kernel_rfl, by kernel_rfl⟩
theorem cl20_s10 : CallsTo Tryd.prog 20 := ⟨_, Tryd.func20, by kernel_rfl, by kernel_rfl⟩
theorem cl21_s10 : CallsTo Tryd.prog 21 := ⟨_, Tryd.func21, by kernel_rfl, by kernel_rfl⟩
theorem cl22_s10 : CallsTo Tryd.prog 22 := ⟨_, Tryd.func22, by kernel_rfl, by kernel_rfl⟩
theorem cl23_s10 : CallsTo Tryd.prog 23 := ⟨_, Tryd.func23, by kernel_rfl, by kernel_rfl⟩
theorem cl47_s10 : CallsTo Tryd.prog 47 := ⟨_, Tryd.func47, by kernel_rfl, by kernel_rfl⟩
theorem cl52_s10 : CallsTo Tryd.prog 52 := ⟨_, Tryd.func52, by kernel_rfl, by kernel_rfl⟩
theorem cl58_s10 : CallsTo Tryd.prog 58 := ⟨_, Tryd.func58, by kernel_rfl, by kernel_rfl⟩
theorem cl78_s10 : CallsTo Tryd.prog 78 := ⟨_, Tryd.func78, by kernel_rfl, by kernel_rfl⟩
theorem cl89_s10 : CallsTo Tryd.prog 89 := ⟨_, Tryd.func89, by kernel_rfl, by kernel_rfl⟩

theorem zr23_s10 : zeroIs Tryd.prog 23 (.agg (dc (List.replicate 32 0)).toArray) := by unfold zeroIs; kernel_rfl
theorem zr45_s10 : zeroIs Tryd.prog 45 (.agg ([.pointer none, .slice none 0 0] : List Value).toArray) := by unfold zeroIs; kernel_rfl

set_option maxRecDepth 100000 in
set_option maxHeartbeats 2000000 in
theorem rs_sub (w0 : World) (G : List Seg) (width : Int) (AE : Option Addr) (cE : Nat) (hE : Rc w0 G AE (digs (emptyL width) 257)) : ∀ (h : Nat) (_hh : h ≤ 256) (w : World) (R : List Seg) (_hG : G ⊆ R) (A : Option Addr) (l : List Itm) (c : Nat) (_hlc : l.length ≤ c) (_hcm : l.length ≤ 9223372036854775807) (_hI : ∀ i ∈ l, i.OK) (_hL : Rc w0 G A (cel Itm.cells l)) (_hA : Hp w0 R w),
    Calls Tryd.prog 58 #[.int .i64 width, .slice A l.length c, .int .i64 ((256 - h : Nat) : Int), .slice AE 257 cE] w fun e w' => e = .returned (.agg (dc (subE width h l)).toArray) ∧ Hp w0 R w' := by
  intro h
  induction h with
  | zero =>
    intro hh w R hG A l c hlc hcm hI hL hA
    rw [show 256 - 0 = 256 from rfl]
    have hdle := emptyL_length width
    have hds : (dc (subE width 0 l)).length = 32 := by rw [dc_length, subE_length]
    refine vc_enter Tryd.func58 rfl Tryd.ntmps58 (Nat.le_of_ble_eq_true rfl) (fun a hF => ?_)
    apply wp_seq_k; intro K1 hK1
    refine wp_region_lit ?_
    refine vc_op rfl (fun K hK => hs_alloc hF rfl (by decide) rfl hA (zr23_s10) (fun b1 w2 a hb1 hF hA3 => hK _ _ ?_))
    clear hK K
    replace hA3 : Hp w0 ([row b1 23 (dc (List.replicate 32 0))] :: R) w2 := hA3
    refine vc_nil ?_
    refine hK1 _ _ ?_; clear  hK1 K1
    apply wp_seq_k; intro K2 hK2
    apply wp_seq_k; intro K3 hK3
    by_cases hl0 : l = []
    · have hse : subE width 0 l = emptyL width 0 := by rw [hl0, subE_nil]
      have hlz : l.length = 0 := by rw [hl0]; rfl
      refine wp_region_lit ?_
      refine vc_y hF rfl rfl (by decide) _ (y_move rfl rfl) (fun a hF => ?_)
      refine vc_y hF rfl rfl (by decide) _ (y_lenSl rfl Tryd.underlying55 rfl rfl) (fun a hF => ?_)
      refine vc_y hF rfl rfl (by decide) _ (y_cmp rfl rfl rfl rfl (eql_t (by omega))) (fun a hF => ?_)
      refine vc_nil ?_
      refine hK3 _ _ ?_; clear  hK3 K3
      refine vc_true hF rfl ?_
      obtain ⟨herd, hele⟩ := digs_rd (emptyL width) 257 0 (fun i _ => hdle i) (by omega)
      obtain ⟨be_, qe, hAE, hce⟩ := hE.ne (i := 0 * 32) (by omega)
      apply wp_seq_k; intro K4 hK4
      refine wp_region_lit ?_
      refine vc_y hF rfl rfl (by decide) _ (y_move rfl rfl) (fun a hF => ?_)
      refine vc_y hF rfl rfl (by decide) _ (y_move rfl rfl) (fun a hF => ?_)
      refine vc_y hF rfl rfl (by decide) _ (y_sub rfl rfl rfl (show IntKind.i64.wrap (256 - ((256 : Nat) : Int)) = ((0 : Nat) : Int) by rw [IntWalk.i64_in _ (by omega)]; omega)) (fun a hF => ?_)
      refine vc_y hF rfl rfl (by decide) _ (y_ixSl rfl Tryd.underlying26 sz23_s10 (by exact congrArg (fun A => some (Value.slice A 257 cE)) hAE) rfl 0 rfl (by omega) rfl) (fun a hF => ?_)
      refine vc_y hF rfl rfl (by decide) _ (y_ldRowC rfl (Hq.sub hA3.q (List.Subset.trans hG (subC (sub0)))) rfl hce (0 * 32) hele rfl (show List.take 32 (List.drop (0 * 32) (digs (emptyL width) 257)) = dc (subE width 0 l) by rw [hse]; exact herd) rw23_s10) (fun a hF => ?_)
      refine vc_op rfl (fun K hK => hs_storeAll (new := dc (subE width 0 l)) hF rfl rfl hA3 rfl rfl 0 rfl (by rw [hds]; rfl) (dc_one _) (by exact sz23_s10) (fun w4 hA5 => hK _ _ ?_))
      clear hK K
      replace hA5 : Hp w0 ([row b1 23 (dc (subE width 0 l))] :: R) w4 := hA5
      refine vc_nil ?_
      refine hK4 _ _ ?_; clear  hK4 K4
      apply wp_ret
      simp only [Exit.then]
      refine vc_retR hF Tryd.results58 hA5.q rfl 0 rfl (by rw [hds]; exact rw23_s10) ?_
      have hA6 : Hp w0 (R) w4 := Hp.sel [[row b1 23 (dc (subE width 0 l))]] R [] [0] hA5 rfl
      exact ⟨rfl, hA6⟩
    · have hpos : 0 < l.length := List.length_pos_iff.2 hl0
      refine wp_region_lit ?_
      refine vc_y hF rfl rfl (by decide) _ (y_move rfl rfl) (fun a hF => ?_)
      refine vc_y hF rfl rfl (by decide) _ (y_lenSl rfl Tryd.underlying55 rfl rfl) (fun a hF => ?_)
      refine vc_y hF rfl rfl (by decide) _ (y_cmp rfl rfl rfl rfl (eql_f (by omega))) (fun a hF => ?_)
      refine vc_nil ?_
      refine hK3 _ _ ?_; clear  hK3 K3
      refine vc_false hF rfl ?_
      apply wp_skip
      refine hK2 _ _ ?_; clear  hK2 K2
      apply wp_seq_k; intro K5 hK5
      apply wp_seq_k; intro K6 hK6
      refine wp_region_lit ?_
      refine vc_y hF rfl rfl (by decide) _ (y_move rfl rfl) (fun a hF => ?_)
      refine vc_y hF rfl rfl (by decide) _ (y_cmp rfl rfl rfl rfl (eql_t (by omega))) (fun a hF => ?_)
      refine vc_nil ?_
      refine hK6 _ _ ?_; clear  hK6 K6
      refine vc_true hF rfl ?_
      obtain ⟨i, hi0⟩ : ∃ i, l[0]? = some i := ⟨_, List.getElem?_eq_getElem hpos⟩
      have hiK := hI i (List.mem_of_getElem? hi0)
      have hse : entryD width i = subE width 0 l := by
        cases l with
        | nil => exact absurd rfl hl0
        | cons i' l' => rw [subE_zero]; cases hi0; rfl
      obtain ⟨hra, hrb⟩ := rs_at hI hi0
      obtain ⟨b, q, hA2, hc⟩ := hL.ne (i := 0 * 65) (by omega)
      apply wp_seq_k; intro K7 hK7
      refine wp_region_plan 10 [9,10] [0,1,2,3,4,5,6,7,8,9,10] (fun x => Hq w0 ([row b1 23 (dc (List.replicate 32 0))] :: R) x) (by kernel_rfl) (by kernel_rfl) (Hq.drew (Hp.qp [[row b1 23 (dc (List.replicate 32 0))]] R [0] hA3)) ?_
      have hA7 := Hl.drew hA3
      refine vp_y hF rfl rfl rfl rfl (by decide) _ (fun x hx => y_move rfl rfl) (fun a hF => ?_)
      refine vp_y hF rfl rfl rfl rfl (by decide) _ (fun x hx => y_move rfl rfl) (fun a hF => ?_)
      refine vp_y hF rfl rfl rfl rfl (by decide) _ (fun x hx => y_ixSl rfl Tryd.underlying55 sz54_s10 (by exact congrArg (fun A => some (Value.slice A l.length c)) hA2) rfl 0 rfl hpos rfl) (fun a hF => ?_)
      refine vp_y hF rfl rfl rfl rfl (by decide) _ (fun x hx => y_field rfl Tryd.underlying54 rfl sz23_s10 (by decide) rfl (rfl : (⟨_, _ + _, none⟩ : Addr) = ⟨b, q + 0 * 65 + 0, none⟩)) (fun a hF => ?_)
      refine vp_y hF rfl rfl rfl rfl (by decide) _ (fun x hx => y_ldRowC rfl (Hq.sub hx (List.Subset.trans hG (subC (sub0)))) rfl hc (0 * 65) (by omega) rfl (rs_key hI hi0) rw23_s10) (fun a hF => ?_)
      refine vp_y hF rfl rfl rfl rfl (by decide) _ (fun x hx => y_move rfl rfl) (fun a hF => ?_)
      refine vp_y hF rfl rfl rfl rfl (by decide) _ (fun x hx => y_ixSl rfl Tryd.underlying55 sz54_s10 (by exact congrArg (fun A => some (Value.slice A l.length c)) hA2) rfl 0 rfl hpos rfl) (fun a hF => ?_)
      refine vp_y hF rfl rfl rfl rfl (by decide) _ (fun x hx => y_field rfl Tryd.underlying54 rfl sz25_s10 (by decide) rfl (rfl : (⟨_, _ + _, none⟩ : Addr) = ⟨b, q + 0 * 65 + 32, none⟩)) (fun a hF => ?_)
      refine vp_y hF rfl rfl rfl rfl (by decide) _ (fun x hx => y_ldRowC rfl (Hq.sub hx (List.Subset.trans hG (subC (sub0)))) rfl hc (0 * 65 + 32) (by omega) (by omega) (rs_ent hI hi0) rw25_s10) (fun a hF => ?_)
      refine vp_l rfl rfl rfl (fun K hK => ws_call hF rfl (by decide) cl89_s10 rfl rfl ?_)
      with_reducible refine (tt_rentry w0 _ ([row b1 23 (dc (List.replicate 32 0))] :: R) width i.ct i.k i.ch hiK.k hiK.ch hA7 ).mono ?_
      rintro e' w8 ⟨rfl, hA9⟩
      refine ⟨_, rfl, fun a hF => hK _ _ (fun _ => ?_) ?_⟩
      · exact Hp.qp [[row b1 23 (dc (List.replicate 32 0))]] R [0] hA9
      clear hK K
      replace hA9 : Hp w0 ([row b1 23 (dc (List.replicate 32 0))] :: R) w8 := hA9
      rw [show ofL width 3 (i.k ++ be 8 (c64 i.ct) ++ i.ch) = subE width 0 l from hse] at hF
      refine vp_l rfl rfl rfl (fun K hK => hs_storeAll (new := dc (subE width 0 l)) hF rfl rfl hA9 rfl rfl 0 rfl (by rw [hds]; rfl) (dc_one _) (by exact sz23_s10) (fun w10 hA11 => hK _ _ (fun h => absurd h (by decide)) ?_))
      clear hK K
      replace hA11 : Hp w0 ([row b1 23 (dc (subE width 0 l))] :: R) w10 := hA11
      refine plan_end ?_
      refine hK7 _ _ ?_; clear  hK7 K7
      apply wp_ret
      simp only [Exit.then]
      refine vc_retR hF Tryd.results58 hA11.q rfl 0 rfl (by rw [hds]; exact rw23_s10) ?_
      have hA12 : Hp w0 (R) w10 := Hp.sel [[row b1 23 (dc (subE width 0 l))]] R [] [0] hA11 rfl
      exact ⟨rfl, hA12⟩
  | succ h ih =>
    intro hh w R hG A l c hlc hcm hI hL hA
    rw [show 256 - (h + 1) = 255 - h by omega]
    have hdle := emptyL_length width
    have hds : (dc (subE width (h + 1) l)).length = 32 := by rw [dc_length, subE_length]
    refine vc_enter Tryd.func58 rfl Tryd.ntmps58 (Nat.le_of_ble_eq_true rfl) (fun a hF => ?_)
    apply wp_seq_k; intro K1 hK1
    refine wp_region_lit ?_
    refine vc_op rfl (fun K hK => hs_alloc hF rfl (by decide) rfl hA (zr23_s10) (fun b1 w2 a hb1 hF hA3 => hK _ _ ?_))
    clear hK K
    replace hA3 : Hp w0 ([row b1 23 (dc (List.replicate 32 0))] :: R) w2 := hA3
    refine vc_nil ?_
    refine hK1 _ _ ?_; clear  hK1 K1
    apply wp_seq_k; intro K2 hK2
    apply wp_seq_k; intro K3 hK3
    by_cases hl0 : l = []
    · have hse : subE width (h + 1) l = emptyL width (h + 1) := by rw [hl0, subE_nil]
      have hlz : l.length = 0 := by rw [hl0]; rfl
      refine wp_region_lit ?_
      refine vc_y hF rfl rfl (by decide) _ (y_move rfl rfl) (fun a hF => ?_)
      refine vc_y hF rfl rfl (by decide) _ (y_lenSl rfl Tryd.underlying55 rfl rfl) (fun a hF => ?_)
      refine vc_y hF rfl rfl (by decide) _ (y_cmp rfl rfl rfl rfl (eql_t (by omega))) (fun a hF => ?_)
      refine vc_nil ?_
      refine hK3 _ _ ?_; clear  hK3 K3
      refine vc_true hF rfl ?_
      obtain ⟨herd, hele⟩ := digs_rd (emptyL width) 257 (h + 1) (fun i _ => hdle i) (by omega)
      obtain ⟨be_, qe, hAE, hce⟩ := hE.ne (i := (h + 1) * 32) (by omega)
      apply wp_seq_k; intro K4 hK4
      refine wp_region_lit ?_
      refine vc_y hF rfl rfl (by decide) _ (y_move rfl rfl) (fun a hF => ?_)
      refine vc_y hF rfl rfl (by decide) _ (y_move rfl rfl) (fun a hF => ?_)
      refine vc_y hF rfl rfl (by decide) _ (y_sub rfl rfl rfl (show IntKind.i64.wrap (256 - (((255 - h) : Nat) : Int)) = (((h + 1) : Nat) : Int) by rw [IntWalk.i64_in _ (by omega)]; omega)) (fun a hF => ?_)
      refine vc_y hF rfl rfl (by decide) _ (y_ixSl rfl Tryd.underlying26 sz23_s10 (by exact congrArg (fun A => some (Value.slice A 257 cE)) hAE) rfl (h + 1) rfl (by omega) rfl) (fun a hF => ?_)
      refine vc_y hF rfl rfl (by decide) _ (y_ldRowC rfl (Hq.sub hA3.q (List.Subset.trans hG (subC (sub0)))) rfl hce ((h + 1) * 32) hele rfl (show List.take 32 (List.drop ((h + 1) * 32) (digs (emptyL width) 257)) = dc (subE width (h + 1) l) by rw [hse]; exact herd) rw23_s10) (fun a hF => ?_)
      refine vc_op rfl (fun K hK => hs_storeAll (new := dc (subE width (h + 1) l)) hF rfl rfl hA3 rfl rfl 0 rfl (by rw [hds]; rfl) (dc_one _) (by exact sz23_s10) (fun w4 hA5 => hK _ _ ?_))
      clear hK K
      replace hA5 : Hp w0 ([row b1 23 (dc (subE width (h + 1) l))] :: R) w4 := hA5
      refine vc_nil ?_
      refine hK4 _ _ ?_; clear  hK4 K4
      apply wp_ret
      simp only [Exit.then]
      refine vc_retR hF Tryd.results58 hA5.q rfl 0 rfl (by rw [hds]; exact rw23_s10) ?_
      have hA6 : Hp w0 (R) w4 := Hp.sel [[row b1 23 (dc (subE width (h + 1) l))]] R [] [0] hA5 rfl
      exact ⟨rfl, hA6⟩
    · have hpos : 0 < l.length := List.length_pos_iff.2 hl0
      refine wp_region_lit ?_
      refine vc_y hF rfl rfl (by decide) _ (y_move rfl rfl) (fun a hF => ?_)
      refine vc_y hF rfl rfl (by decide) _ (y_lenSl rfl Tryd.underlying55 rfl rfl) (fun a hF => ?_)
      refine vc_y hF rfl rfl (by decide) _ (y_cmp rfl rfl rfl rfl (eql_f (by omega))) (fun a hF => ?_)
      refine vc_nil ?_
      refine hK3 _ _ ?_; clear  hK3 K3
      refine vc_false hF rfl ?_
      apply wp_skip
      refine hK2 _ _ ?_; clear  hK2 K2
      apply wp_seq_k; intro K5 hK5
      apply wp_seq_k; intro K6 hK6
      refine wp_region_lit ?_
      refine vc_y hF rfl rfl (by decide) _ (y_move rfl rfl) (fun a hF => ?_)
      refine vc_y hF rfl rfl (by decide) _ (y_cmp rfl rfl rfl rfl (eql_f (by omega))) (fun a hF => ?_)
      refine vc_nil ?_
      refine hK6 _ _ ?_; clear  hK6 K6
      refine vc_false hF rfl ?_
      apply wp_skip
      refine hK5 _ _ ?_; clear  hK5 K5
      apply wp_seq_k; intro K7 hK7
      refine wp_region_lit ?_
      refine vc_y hF rfl rfl (by decide) _ (y_assign rfl rfl) (fun a hF => ?_)
      refine vc_nil ?_
      refine hK7 _ _ ?_; clear  hK7 K7
      apply wp_seq_k; intro K8 hK8
      apply wp_block
      refine vc_loop (G := Nat) (fun n a x => n ≤ l.length ∧ (∀ j i, j < n → l[j]? = some i → zeroBit (255 - h) i = true) ∧ Fr 64 [(9, .int .i64 (n : Int)), (0, .int .i64 width), (1, .slice A l.length c), (2, .int .i64 ((255 - h : Nat) : Int)), (3, .slice AE 257 cE), (8, .pointer (some ⟨b1, 0, none⟩))] a ∧ Hp w0 ([row b1 23 (dc (List.replicate 32 0))] :: R) x) (fun n => l.length - n) 0 (⟨Nat.zero_le _, (fun j i hj => absurd hj (Nat.not_lt_zero _)), hF.keep [9, 0, 1, 2, 3, 8] rfl, hA3⟩) ?_
      clear hF
      rintro n a w8 ⟨hn, hall, hF, hA7⟩
      by_cases hlt : n < l.length
      · obtain ⟨i, hi⟩ : ∃ i, l[n]? = some i := ⟨_, List.getElem?_eq_getElem hlt⟩
        have hiK := hI i (List.mem_of_getElem? hi)
        obtain ⟨hra, hrb⟩ := rs_at hI hi
        obtain ⟨b, q, hA2, hc⟩ := hL.ne (i := n * 65) (by omega)
        have hkc := keyBit_cases i.k (255 - h)
        by_cases hkb : keyBit i.k (255 - h) = 0
        · apply wp_seq_k; intro K9 hK9
          apply wp_seq_k; intro K10 hK10
          refine wp_region_lit ?_
          refine vc_y hF rfl rfl (by decide) _ (y_move rfl rfl) (fun a hF => ?_)
          refine vc_y hF rfl rfl (by decide) _ (y_move rfl rfl) (fun a hF => ?_)
          refine vc_y hF rfl rfl (by decide) _ (y_lenSl rfl Tryd.underlying55 rfl rfl) (fun a hF => ?_)
          refine vc_y hF rfl rfl (by decide) _ (y_cmp rfl rfl rfl rfl (lss_t (by omega))) (fun a hF => ?_)
          refine vc_y hF rfl rfl (by decide) _ (y_move rfl rfl) (fun a hF => ?_)
          refine vc_yg hF rfl rfl rfl rfl rfl (by decide) _ (y_move rfl rfl) (fun a hF => ?_)
          refine vc_yg hF rfl rfl rfl rfl rfl (by decide) _ (y_move rfl rfl) (fun a hF => ?_)
          refine vc_yg hF rfl rfl rfl rfl rfl (by decide) _ (y_ixSl rfl Tryd.underlying55 sz54_s10 (by exact congrArg (fun A => some (Value.slice A l.length c)) hA2) rfl n rfl hlt rfl) (fun a hF => ?_)
          refine vc_yg hF rfl rfl rfl rfl rfl (by decide) _ (y_field rfl Tryd.underlying54 rfl sz23_s10 (by decide) rfl (rfl : (⟨_, _ + _, none⟩ : Addr) = ⟨b, q + n * 65 + 0, none⟩)) (fun a hF => ?_)
          refine vc_yg hF rfl rfl rfl rfl rfl (by decide) _ (y_ldRowC rfl (Hq.sub hA7.q (List.Subset.trans hG (subC (sub0)))) rfl hc (n * 65) (by omega) rfl (rs_key hI hi) rw23_s10) (fun a hF => ?_)
          refine vc_yg hF rfl rfl rfl rfl rfl (by decide) _ (y_move rfl rfl) (fun a hF => ?_)
          refine vc_opg hF rfl rfl rfl rfl (fun K hK => ws_call hF rfl (by decide) cl52_s10 rfl rfl ?_)
          with_reducible refine (sp_rbit w0 _ ([row b1 23 (dc (List.replicate 32 0))] :: R) i.k (255 - h) hiK.k (by omega) hA7 ).mono ?_
          rintro e' w9 ⟨rfl, hA10⟩
          refine ⟨_, rfl, fun a hF => hK _ _ ?_⟩
          clear hK K
          replace hA10 : Hp w0 ([row b1 23 (dc (List.replicate 32 0))] :: R) w9 := hA10
          refine vc_yg hF rfl rfl rfl rfl rfl (by decide) _ (y_cmp rfl rfl rfl rfl (eql_t (by omega))) (fun a hF => ?_)
          refine vc_y hF rfl rfl (by decide) _ (y_pick rfl rfl rfl) (fun a hF => ?_)
          refine vc_nil ?_
          refine hK10 _ _ ?_; clear  hK10 K10
          refine vc_true hF rfl ?_
          apply wp_skip
          refine hK9 _ _ ?_; clear  hK9 K9
          apply wp_block
          refine wp_region_lit ?_
          refine vc_y hF rfl rfl (by decide) _ (y_move rfl rfl) (fun a hF => ?_)
          refine vc_y hF rfl rfl (by decide) _ (y_add rfl rfl rfl (IntWalk.i64_in _ (by omega))) (fun a hF => ?_)
          refine vc_y hF rfl rfl (by decide) _ (y_assign rfl rfl) (fun a hF => ?_)
          refine vc_nil ?_
          exact ⟨n + 1, by omega, by omega, (fun j i2 hj hj2 => by rcases Nat.lt_or_ge j n with h3 | h3; exact hall j i2 h3 hj2; obtain rfl : j = n := (by omega); rw [hi] at hj2; cases hj2; exact decide_eq_true hkb), hF.keep [9, 0, 1, 2, 3, 8] rfl, hA10⟩
        · apply wp_seq_k; intro K11 hK11
          apply wp_seq_k; intro K12 hK12
          refine wp_region_lit ?_
          refine vc_y hF rfl rfl (by decide) _ (y_move rfl rfl) (fun a hF => ?_)
          refine vc_y hF rfl rfl (by decide) _ (y_move rfl rfl) (fun a hF => ?_)
          refine vc_y hF rfl rfl (by decide) _ (y_lenSl rfl Tryd.underlying55 rfl rfl) (fun a hF => ?_)
          refine vc_y hF rfl rfl (by decide) _ (y_cmp rfl rfl rfl rfl (lss_t (by omega))) (fun a hF => ?_)
          refine vc_y hF rfl rfl (by decide) _ (y_move rfl rfl) (fun a hF => ?_)
          refine vc_yg hF rfl rfl rfl rfl rfl (by decide) _ (y_move rfl rfl) (fun a hF => ?_)
          refine vc_yg hF rfl rfl rfl rfl rfl (by decide) _ (y_move rfl rfl) (fun a hF => ?_)
          refine vc_yg hF rfl rfl rfl rfl rfl (by decide) _ (y_ixSl rfl Tryd.underlying55 sz54_s10 (by exact congrArg (fun A => some (Value.slice A l.length c)) hA2) rfl n rfl hlt rfl) (fun a hF => ?_)
          refine vc_yg hF rfl rfl rfl rfl rfl (by decide) _ (y_field rfl Tryd.underlying54 rfl sz23_s10 (by decide) rfl (rfl : (⟨_, _ + _, none⟩ : Addr) = ⟨b, q + n * 65 + 0, none⟩)) (fun a hF => ?_)
          refine vc_yg hF rfl rfl rfl rfl rfl (by decide) _ (y_ldRowC rfl (Hq.sub hA7.q (List.Subset.trans hG (subC (sub0)))) rfl hc (n * 65) (by omega) rfl (rs_key hI hi) rw23_s10) (fun a hF => ?_)
          refine vc_yg hF rfl rfl rfl rfl rfl (by decide) _ (y_move rfl rfl) (fun a hF => ?_)
          refine vc_opg hF rfl rfl rfl rfl (fun K hK => ws_call hF rfl (by decide) cl52_s10 rfl rfl ?_)
          with_reducible refine (sp_rbit w0 _ ([row b1 23 (dc (List.replicate 32 0))] :: R) i.k (255 - h) hiK.k (by omega) hA7 ).mono ?_
          rintro e' w11 ⟨rfl, hA12⟩
          refine ⟨_, rfl, fun a hF => hK _ _ ?_⟩
          clear hK K
          replace hA12 : Hp w0 ([row b1 23 (dc (List.replicate 32 0))] :: R) w11 := hA12
          refine vc_yg hF rfl rfl rfl rfl rfl (by decide) _ (y_cmp rfl rfl rfl rfl (eql_f (by omega))) (fun a hF => ?_)
          refine vc_y hF rfl rfl (by decide) _ (y_pick rfl rfl rfl) (fun a hF => ?_)
          refine vc_nil ?_
          refine hK12 _ _ ?_; clear  hK12 K12
          refine vc_false hF rfl ?_
          apply wp_exit
          refine hK8 _ _ ?_; clear hK11 K11 hK8 K8
          apply wp_seq_k; intro K13 hK13
          obtain ⟨htw, hdw⟩ := tw_split hn hall (fun i2 hj2 => by rw [hi] at hj2; cases hj2; exact decide_eq_false hkb)
          have hln : (l.take n).length = n := by rw [List.length_take]; omega
          have hld : (l.drop n).length = l.length - n := List.length_drop ..
          have hLt := rs_take n hI hL
          have hLd := rs_drop n c hI hn hlc hL
          have hIt : ∀ i ∈ l.take n, i.OK := fun i hi => hI i (List.mem_of_mem_take hi)
          have hId : ∀ i ∈ l.drop n, i.OK := fun i hi => hI i (List.mem_of_mem_drop hi)
          have hsu : subE width (h + 1) l = branchL width (subE width h (l.take n)) (subE width h (l.drop n)) := by rw [subE_go hl0, htw, hdw]
          refine wp_region_plan 18 [8,16,17,18] [0,1,2,3,4,5,6,7,9,10,11,12,13,14,15,8,16,17,18] (fun x => Hq w0 ([row b1 23 (dc (List.replicate 32 0))] :: R) x) (by kernel_rfl) (by kernel_rfl) (Hq.drew (Hp.qp [[row b1 23 (dc (List.replicate 32 0))]] R [0] hA12)) ?_
          have hA13 := Hl.drew hA12
          refine vp_y hF rfl rfl rfl rfl (by decide) _ (fun x hx => y_move rfl rfl) (fun a hF => ?_)
          refine vp_y hF rfl rfl rfl rfl (by decide) _ (fun x hx => y_move rfl rfl) (fun a hF => ?_)
          refine vp_y hF rfl rfl rfl rfl (by decide) _ (fun x hx => y_move rfl rfl) (fun a hF => ?_)
          refine vp_y hF rfl rfl rfl rfl (by decide) _ (fun x hx => y_move rfl rfl) (fun a hF => ?_)
          refine vp_y hF rfl rfl rfl rfl (by decide) _ (fun x hx => y_slice (v := .slice A (l.take n).length c) rfl Tryd.underlying55 sz54_s10 rfl (.none 0) (.some rfl rfl) (Nat.zero_le _) (by omega) (by rw [hln]; exact slice_to)) (fun a hF => ?_)
          refine vp_y hF rfl rfl rfl rfl (by decide) _ (fun x hx => y_move rfl rfl) (fun a hF => ?_)
          refine vp_y hF rfl rfl rfl rfl (by decide) _ (fun x hx => y_add rfl rfl rfl (show IntKind.i64.wrap (((255 - h : Nat) : Int) + 1) = ((256 - h : Nat) : Int) by rw [IntWalk.i64_in _ (by omega)]; omega)) (fun a hF => ?_)
          refine vp_y hF rfl rfl rfl rfl (by decide) _ (fun x hx => y_move rfl rfl) (fun a hF => ?_)
          refine vp_y hF rfl rfl rfl rfl (by decide) _ (fun x hx => y_move rfl rfl) (fun a hF => ?_)
          refine vp_y hF rfl rfl rfl rfl (by decide) _ (fun x hx => y_move rfl rfl) (fun a hF => ?_)
          refine vp_y hF rfl rfl rfl rfl (by decide) _ (fun x hx => y_move rfl rfl) (fun a hF => ?_)
          refine vp_y hF rfl rfl rfl rfl (by decide) _ (fun x hx => y_slice (v := .slice (sub A n c 65) (l.drop n).length (c - n)) rfl Tryd.underlying55 sz54_s10 rfl (.some rfl rfl) (.none _) hn hlc (by rw [hld])) (fun a hF => ?_)
          refine vp_y hF rfl rfl rfl rfl (by decide) _ (fun x hx => y_move rfl rfl) (fun a hF => ?_)
          refine vp_y hF rfl rfl rfl rfl (by decide) _ (fun x hx => y_add rfl rfl rfl (show IntKind.i64.wrap (((255 - h : Nat) : Int) + 1) = ((256 - h : Nat) : Int) by rw [IntWalk.i64_in _ (by omega)]; omega)) (fun a hF => ?_)
          refine vp_y hF rfl rfl rfl rfl (by decide) _ (fun x hx => y_move rfl rfl) (fun a hF => ?_)
          refine vp_l rfl rfl rfl (fun K hK => ws_call hF rfl (by decide) cl58_s10 rfl rfl ?_)
          with_reducible refine (ih (by omega) _ ([row b1 23 (dc (List.replicate 32 0))] :: R) (List.Subset.trans hG (subC (sub0))) A (l.take n) c (by rw [hln]; omega) (by rw [hln]; omega) hIt hLt hA13 ).mono ?_
          rintro e' w14 ⟨rfl, hA15⟩
          refine ⟨_, rfl, fun a hF => hK _ _ (fun _ => ?_) ?_⟩
          · exact Hp.qp [[row b1 23 (dc (List.replicate 32 0))]] R [0] hA15
          clear hK K
          replace hA15 : Hp w0 ([row b1 23 (dc (List.replicate 32 0))] :: R) w14 := hA15
          refine vp_l rfl rfl rfl (fun K hK => ws_call hF rfl (by decide) cl58_s10 rfl rfl ?_)
          with_reducible refine (ih (by omega) _ ([row b1 23 (dc (List.replicate 32 0))] :: R) (List.Subset.trans hG (subC (sub0))) (sub A n c 65) (l.drop n) (c - n) (by rw [hld]; omega) (by rw [hld]; omega) hId hLd hA15 ).mono ?_
          rintro e' w16 ⟨rfl, hA17⟩
          refine ⟨_, rfl, fun a hF => hK _ _ (fun _ => ?_) ?_⟩
          · exact Hp.qp [[row b1 23 (dc (List.replicate 32 0))]] R [0] hA17
          clear hK K
          replace hA17 : Hp w0 ([row b1 23 (dc (List.replicate 32 0))] :: R) w16 := hA17
          refine vp_l rfl rfl rfl (fun K hK => ws_call hF rfl (by decide) cl78_s10 rfl rfl ?_)
          with_reducible refine (tt_rbranch w0 _ ([row b1 23 (dc (List.replicate 32 0))] :: R) width (subE width h (l.take n)) (subE width h (l.drop n)) (subE_length _ _ _) (subE_length _ _ _) hA17 ).mono ?_
          rintro e' w18 ⟨rfl, hA19⟩
          refine ⟨_, rfl, fun a hF => hK _ _ (fun _ => ?_) ?_⟩
          · exact Hp.qp [[row b1 23 (dc (List.replicate 32 0))]] R [0] hA19
          clear hK K
          replace hA19 : Hp w0 ([row b1 23 (dc (List.replicate 32 0))] :: R) w18 := hA19
          rw [show ofL width 4 (subE width h (l.take n) ++ subE width h (l.drop n)) = subE width (h + 1) l from hsu.symm] at hF
          refine vp_l rfl rfl rfl (fun K hK => hs_storeAll (new := dc (subE width (h + 1) l)) hF rfl rfl hA19 rfl rfl 0 rfl (by rw [hds]; rfl) (dc_one _) (by exact sz23_s10) (fun w20 hA21 => hK _ _ (fun h => absurd h (by decide)) ?_))
          clear hK K
          replace hA21 : Hp w0 ([row b1 23 (dc (subE width (h + 1) l))] :: R) w20 := hA21
          refine plan_end ?_
          refine hK13 _ _ ?_; clear  hK13 K13
          apply wp_ret
          refine vc_retR hF Tryd.results58 hA21.q rfl 0 rfl (by rw [hds]; exact rw23_s10) ?_
          have hA22 : Hp w0 (R) w20 := Hp.sel [[row b1 23 (dc (subE width (h + 1) l))]] R [] [0] hA21 rfl
          exact ⟨rfl, hA22⟩
      · apply wp_seq_k; intro K14 hK14
        apply wp_seq_k; intro K15 hK15
        refine wp_region_lit ?_
        refine vc_y hF rfl rfl (by decide) _ (y_move rfl rfl) (fun a hF => ?_)
        refine vc_y hF rfl rfl (by decide) _ (y_move rfl rfl) (fun a hF => ?_)
        refine vc_y hF rfl rfl (by decide) _ (y_lenSl rfl Tryd.underlying55 rfl rfl) (fun a hF => ?_)
        refine vc_y hF rfl rfl (by decide) _ (y_cmp rfl rfl rfl rfl (lss_f (by omega))) (fun a hF => ?_)
        refine vc_y hF rfl rfl (by decide) _ (y_move rfl rfl) (fun a hF => ?_)
        refine vc_skip hF rfl rfl rfl rfl rfl rfl (by decide) (fun a hF => ?_)
        refine vc_skip hF rfl rfl rfl rfl rfl rfl (by decide) (fun a hF => ?_)
        refine vc_skip hF rfl rfl rfl rfl rfl rfl (by decide) (fun a hF => ?_)
        refine vc_skip hF rfl rfl rfl rfl rfl rfl (by decide) (fun a hF => ?_)
        refine vc_skip hF rfl rfl rfl rfl rfl rfl (by decide) (fun a hF => ?_)
        refine vc_skip hF rfl rfl rfl rfl rfl rfl (by decide) (fun a hF => ?_)
        refine vc_skip hF rfl rfl rfl rfl rfl rfl (by decide) (fun a hF => ?_)
        refine vc_skip hF rfl rfl rfl rfl rfl rfl (by decide) (fun a hF => ?_)
        refine vc_y hF rfl rfl (by decide) _ (y_pick rfl rfl rfl) (fun a hF => ?_)
        refine vc_nil ?_
        refine hK15 _ _ ?_; clear  hK15 K15
        refine vc_false hF rfl ?_
        apply wp_exit
        refine hK8 _ _ ?_; clear hK14 K14 hK8 K8
        apply wp_seq_k; intro K16 hK16
        obtain ⟨htw, hdw⟩ := tw_split hn hall (fun i2 hj2 => by rw [List.getElem?_eq_none (by omega)] at hj2; cases hj2)
        have hln : (l.take n).length = n := by rw [List.length_take]; omega
        have hld : (l.drop n).length = l.length - n := List.length_drop ..
        have hLt := rs_take n hI hL
        have hLd := rs_drop n c hI hn hlc hL
        have hIt : ∀ i ∈ l.take n, i.OK := fun i hi => hI i (List.mem_of_mem_take hi)
        have hId : ∀ i ∈ l.drop n, i.OK := fun i hi => hI i (List.mem_of_mem_drop hi)
        have hsu : subE width (h + 1) l = branchL width (subE width h (l.take n)) (subE width h (l.drop n)) := by rw [subE_go hl0, htw, hdw]
        refine wp_region_plan 18 [8,16,17,18] [0,1,2,3,4,5,6,7,9,10,11,12,13,14,15,8,16,17,18] (fun x => Hq w0 ([row b1 23 (dc (List.replicate 32 0))] :: R) x) (by kernel_rfl) (by kernel_rfl) (Hq.drew (Hp.qp [[row b1 23 (dc (List.replicate 32 0))]] R [0] hA7)) ?_
        have hA23 := Hl.drew hA7
        refine vp_y hF rfl rfl rfl rfl (by decide) _ (fun x hx => y_move rfl rfl) (fun a hF => ?_)
        refine vp_y hF rfl rfl rfl rfl (by decide) _ (fun x hx => y_move rfl rfl) (fun a hF => ?_)
        refine vp_y hF rfl rfl rfl rfl (by decide) _ (fun x hx => y_move rfl rfl) (fun a hF => ?_)
        refine vp_y hF rfl rfl rfl rfl (by decide) _ (fun x hx => y_move rfl rfl) (fun a hF => ?_)
        refine vp_y hF rfl rfl rfl rfl (by decide) _ (fun x hx => y_slice (v := .slice A (l.take n).length c) rfl Tryd.underlying55 sz54_s10 rfl (.none 0) (.some rfl rfl) (Nat.zero_le _) (by omega) (by rw [hln]; exact slice_to)) (fun a hF => ?_)
        refine vp_y hF rfl rfl rfl rfl (by decide) _ (fun x hx => y_move rfl rfl) (fun a hF => ?_)
        refine vp_y hF rfl rfl rfl rfl (by decide) _ (fun x hx => y_add rfl rfl rfl (show IntKind.i64.wrap (((255 - h : Nat) : Int) + 1) = ((256 - h : Nat) : Int) by rw [IntWalk.i64_in _ (by omega)]; omega)) (fun a hF => ?_)
        refine vp_y hF rfl rfl rfl rfl (by decide) _ (fun x hx => y_move rfl rfl) (fun a hF => ?_)
        refine vp_y hF rfl rfl rfl rfl (by decide) _ (fun x hx => y_move rfl rfl) (fun a hF => ?_)
        refine vp_y hF rfl rfl rfl rfl (by decide) _ (fun x hx => y_move rfl rfl) (fun a hF => ?_)
        refine vp_y hF rfl rfl rfl rfl (by decide) _ (fun x hx => y_move rfl rfl) (fun a hF => ?_)
        refine vp_y hF rfl rfl rfl rfl (by decide) _ (fun x hx => y_slice (v := .slice (sub A n c 65) (l.drop n).length (c - n)) rfl Tryd.underlying55 sz54_s10 rfl (.some rfl rfl) (.none _) hn hlc (by rw [hld])) (fun a hF => ?_)
        refine vp_y hF rfl rfl rfl rfl (by decide) _ (fun x hx => y_move rfl rfl) (fun a hF => ?_)
        refine vp_y hF rfl rfl rfl rfl (by decide) _ (fun x hx => y_add rfl rfl rfl (show IntKind.i64.wrap (((255 - h : Nat) : Int) + 1) = ((256 - h : Nat) : Int) by rw [IntWalk.i64_in _ (by omega)]; omega)) (fun a hF => ?_)
        refine vp_y hF rfl rfl rfl rfl (by decide) _ (fun x hx => y_move rfl rfl) (fun a hF => ?_)
        refine vp_l rfl rfl rfl (fun K hK => ws_call hF rfl (by decide) cl58_s10 rfl rfl ?_)
        with_reducible refine (ih (by omega) _ ([row b1 23 (dc (List.replicate 32 0))] :: R) (List.Subset.trans hG (subC (sub0))) A (l.take n) c (by rw [hln]; omega) (by rw [hln]; omega) hIt hLt hA23 ).mono ?_
        rintro e' w24 ⟨rfl, hA25⟩
        refine ⟨_, rfl, fun a hF => hK _ _ (fun _ => ?_) ?_⟩
        · exact Hp.qp [[row b1 23 (dc (List.replicate 32 0))]] R [0] hA25
        clear hK K
        replace hA25 : Hp w0 ([row b1 23 (dc (List.replicate 32 0))] :: R) w24 := hA25
        refine vp_l rfl rfl rfl (fun K hK => ws_call hF rfl (by decide) cl58_s10 rfl rfl ?_)
        with_reducible refine (ih (by omega) _ ([row b1 23 (dc (List.replicate 32 0))] :: R) (List.Subset.trans hG (subC (sub0))) (sub A n c 65) (l.drop n) (c - n) (by rw [hld]; omega) (by rw [hld]; omega) hId hLd hA25 ).mono ?_
        rintro e' w26 ⟨rfl, hA27⟩
        refine ⟨_, rfl, fun a hF => hK _ _ (fun _ => ?_) ?_⟩
        · exact Hp.qp [[row b1 23 (dc (List.replicate 32 0))]] R [0] hA27
        clear hK K
        replace hA27 : Hp w0 ([row b1 23 (dc (List.replicate 32 0))] :: R) w26 := hA27
        refine vp_l rfl rfl rfl (fun K hK => ws_call hF rfl (by decide) cl78_s10 rfl rfl ?_)
        with_reducible refine (tt_rbranch w0 _ ([row b1 23 (dc (List.replicate 32 0))] :: R) width (subE width h (l.take n)) (subE width h (l.drop n)) (subE_length _ _ _) (subE_length _ _ _) hA27 ).mono ?_
        rintro e' w28 ⟨rfl, hA29⟩
        refine ⟨_, rfl, fun a hF => hK _ _ (fun _ => ?_) ?_⟩
        · exact Hp.qp [[row b1 23 (dc (List.replicate 32 0))]] R [0] hA29
        clear hK K
        replace hA29 : Hp w0 ([row b1 23 (dc (List.replicate 32 0))] :: R) w28 := hA29
        rw [show ofL width 4 (subE width h (l.take n) ++ subE width h (l.drop n)) = subE width (h + 1) l from hsu.symm] at hF
        refine vp_l rfl rfl rfl (fun K hK => hs_storeAll (new := dc (subE width (h + 1) l)) hF rfl rfl hA29 rfl rfl 0 rfl (by rw [hds]; rfl) (dc_one _) (by exact sz23_s10) (fun w30 hA31 => hK _ _ (fun h => absurd h (by decide)) ?_))
        clear hK K
        replace hA31 : Hp w0 ([row b1 23 (dc (subE width (h + 1) l))] :: R) w30 := hA31
        refine plan_end ?_
        refine hK16 _ _ ?_; clear  hK16 K16
        apply wp_ret
        refine vc_retR hF Tryd.results58 hA31.q rfl 0 rfl (by rw [hds]; exact rw23_s10) ?_
        have hA32 : Hp w0 (R) w30 := Hp.sel [[row b1 23 (dc (subE width (h + 1) l))]] R [] [0] hA31 rfl
        exact ⟨rfl, hA32⟩

theorem rs_sub256 (w0 : World) (G : List Seg) (width : Int) (AE : Option Addr) (cE : Nat) (hE : Rc w0 G AE (digs (emptyL width) 257)) (w : World) (R : List Seg) (hG : G ⊆ R) (A : Option Addr) (l : List Itm) (c : Nat) (hlc : l.length ≤ c) (hcm : l.length ≤ 9223372036854775807) (hI : ∀ i ∈ l, i.OK) (hL : Rc w0 G A (cel Itm.cells l)) (hA : Hp w0 R w) : Calls Tryd.prog 58 #[.int .i64 width, .slice A l.length c, .int .i64 0, .slice AE 257 cE] w fun e w' => e = .returned (.agg (dc (subE width 256 l)).toArray) ∧ Hp w0 R w' :=
  rs_sub w0 G width AE cE hE 256 (Nat.le_refl _) w R hG A l c hlc hcm hI hL hA
theorem sub_cons {E : Seg} {G R : List Seg} (h : E ∈ R) (hG : G ⊆ R) : E :: G ⊆ R := fun x hx => by
  rcases List.mem_cons.1 hx with rfl | hx
  · exact h
  · exact hG hx

set_option maxRecDepth 100000 in
set_option maxHeartbeats 2000000 in
theorem rs_root (w0 w : World) (R G : List Seg) (hG : G ⊆ R) (width : Int) (A : Option Addr) (l : List Itm) (c : Nat) (hlc : l.length ≤ c) (hcm : l.length ≤ 9223372036854775807) (hI : ∀ i ∈ l, i.OK) (hL : Rc w0 G A (cel Itm.cells l)) (hA : Hp w0 R w) : Calls Tryd.prog 23 #[.int .i64 width, .slice A l.length c] w fun e w' => e = .returned (.agg (dc (subE width 256 l)).toArray) ∧ Hp w0 R w' := by
  have hds : (dc (subE width 256 l)).length = 32 := by rw [dc_length, subE_length]
  refine vc_enter Tryd.func23 rfl Tryd.ntmps23 (Nat.le_of_ble_eq_true rfl) (fun a hF => ?_)
  apply wp_seq_k; intro K1 hK1
  refine wp_region_lit ?_
  refine vc_op rfl (fun K hK => hs_alloc hF rfl (by decide) rfl hA (zr23_s10) (fun b1 w2 a hb1 hF hA3 => hK _ _ ?_))
  clear hK K
  replace hA3 : Hp w0 ([row b1 23 (dc (List.replicate 32 0))] :: R) w2 := hA3
  refine vc_nil ?_
  refine hK1 _ _ ?_; clear  hK1 K1
  apply wp_seq_k; intro K2 hK2
  refine wp_region_lit ?_
  refine vc_y hF rfl rfl (by decide) _ (y_move rfl rfl) (fun a hF => ?_)
  refine vc_y hF rfl rfl (by decide) _ (y_move rfl rfl) (fun a hF => ?_)
  refine vc_y hF rfl rfl (by decide) _ (y_move rfl rfl) (fun a hF => ?_)
  refine vc_op rfl (fun K hK => ws_call hF rfl (by decide) cl47_s10 rfl rfl ?_)
  with_reducible refine (rs_rempties w0 _ ([row b1 23 (dc (List.replicate 32 0))] :: R) width hA3 ).mono ?_
  rintro e' w4 ⟨AE, cE, ZE, rfl, hRE, hA5⟩
  refine ⟨_, rfl, fun a hF => hK _ _ ?_⟩
  clear hK K
  replace hA5 : Hp w0 (ZE :: [row b1 23 (dc (List.replicate 32 0))] :: R) w4 := hA5
  refine vc_op rfl (fun K hK => ws_call hF rfl (by decide) cl58_s10 rfl rfl ?_)
  with_reducible refine (rs_sub256 w0 (ZE :: G) width AE cE (hRE.mono (sub1 (List.mem_cons_self ..))) _ (ZE :: [row b1 23 (dc (List.replicate 32 0))] :: R) (sub_cons ((List.mem_cons_self ..)) (List.Subset.trans hG (subC (subC (sub0))))) A l c hlc hcm hI (hL.mono (subC sub0)) hA5 ).mono ?_
  rintro e' w6 ⟨rfl, hA7⟩
  refine ⟨_, rfl, fun a hF => hK _ _ ?_⟩
  clear hK K
  replace hA7 : Hp w0 (ZE :: [row b1 23 (dc (List.replicate 32 0))] :: R) w6 := hA7
  refine vc_op rfl (fun K hK => hs_storeAll (new := dc (subE width 256 l)) hF rfl rfl hA7 rfl rfl 1 rfl (by rw [hds]; rfl) (dc_one _) sz23_s10 (fun w8 hA9 => hK _ _ ?_))
  clear hK K
  replace hA9 : Hp w0 (ZE :: [row b1 23 (dc (subE width 256 l))] :: R) w8 := hA9
  refine vc_nil ?_
  refine hK2 _ _ ?_; clear  hK2 K2
  apply wp_ret
  refine vc_retR hF Tryd.results23 hA9.q rfl 1 rfl (by rw [hds]; exact rw23_s10) ?_
  have hA10 : Hp w0 (R) w8 := Hp.sel [ZE, [row b1 23 (dc (subE width 256 l))]] R [] [0, 1] hA9 rfl
  exact ⟨rfl, hA10⟩

theorem rs_root1 (w0 w : World) (R G : List Seg) (hG : G ⊆ R) (width : Int) (A : Option Addr) (i : Itm) (hi : i.OK) (hL : Rc w0 G A i.cells) (hA : Hp w0 R w) : Calls Tryd.prog 23 #[.int .i64 width, .slice A 1 1] w fun e w' => e = .returned (.agg (dc (liftD width i.k (entryD width i) 0 256)).toArray) ∧ Hp w0 R w' := by
  have hc : cel Itm.cells [i] = i.cells := by unfold cel; simp
  have h := rs_root w0 w R G hG width A [i] 1 (Nat.le_refl _) (by simp) (fun x hx => by rw [List.mem_singleton.1 hx]; exact hi) (by rw [hc]; exact hL) hA
  rw [subE_one] at h
  exact h

theorem rn_b1 (w : World) : (Instr.build 23 #[(0, .int .u8 1)]).run Tryd.prog w = .ok (.agg (dc (1 :: List.replicate 31 0)).toArray) w := by kernel_rfl
theorem rn_b2 (w : World) : (Instr.build 25 #[(0, .int .i64 3), (1, .agg (dc (1 :: List.replicate 31 0)).toArray)]).run Tryd.prog w = .ok (.agg (.int .i64 3 :: dc (1 :: List.replicate 31 0)).toArray) w := by kernel_rfl

set_option maxRecDepth 100000 in
set_option maxHeartbeats 2000000 in
theorem law_numbers (w0 : World) (hT : Tab w0) : Calls Tryd.prog 4 #[] w0 fun e w' => e = .returned (.bool true) ∧ At w0 [] w' := by
  have hA : Hp w0 [] w0 := Hp.start w0
  obtain ⟨i, hik, hict, hich⟩ : ∃ i : Itm, i.k = sha (6 :: [109, 45, 55]) ∧ i.ct = 3 ∧ i.ch = 1 :: List.replicate 31 0 := ⟨⟨_, _, _⟩, rfl, rfl, rfl⟩
  have hi : i.OK := ⟨by rw [hik]; exact sha_length _, by rw [hich]; rfl⟩
  have hdk : (dc i.k).length = 32 := by rw [dc_length, hi.k]
  have hde : (dc (emptyL 32 256)).length = 32 := by rw [dc_length, emptyL_length]
  have hli : ∀ x ∈ [i], x.OK := fun x hx => by rw [List.mem_singleton.1 hx]; exact hi
  refine vc_enter Tryd.func4 rfl Tryd.ntmps4 (Nat.le_of_ble_eq_true rfl) (fun a hF => ?_)
  apply wp_seq_k; intro K1 hK1
  refine wp_region_lit ?_
  refine vc_y hF rfl rfl (by decide) _ (y_assign rfl rfl) (fun a hF => ?_)
  refine vc_nil ?_
  refine hK1 _ _ ?_; clear  hK1 K1
  apply wp_seq_k; intro K2 hK2
  refine vc_false hF rfl ?_
  apply wp_skip
  refine hK2 _ _ ?_; clear  hK2 K2
  apply wp_seq_k; intro K3 hK3
  refine wp_region_lit ?_
  refine vc_op rfl (fun K hK => hs_alloc hF rfl (by decide) rfl hA (zr45_s10) (fun b1 w2 a hb1 hF hA3 => hK _ _ ?_))
  clear hK K
  replace hA3 : Hp w0 ([row b1 45 [.pointer none, .slice none 0 0]] :: []) w2 := hA3
  refine vc_nil ?_
  refine hK3 _ _ ?_; clear  hK3 K3
  apply wp_seq_k; intro K4 hK4
  apply wp_seq_k; intro K5 hK5
  refine wp_region_lit ?_
  refine vc_y hF rfl rfl (by decide) _ (y_ldRow (new := [.pointer none, .slice none 0 0]) rfl hA3.q rfl 0 rfl rw45_s10 (Nat.le_of_ble_eq_true rfl) rfl) (fun a hF => ?_)
  refine vc_op rfl (fun K hK => ws_call hF rfl (by decide) cl18_s10 rfl rfl ?_)
  with_reducible refine (rx_root0 w0 _ ([row b1 45 [.pointer none, .slice none 0 0]] :: []) hT hA3 ).mono ?_
  rintro e' w4 ⟨rfl, hA5⟩
  refine ⟨_, rfl, fun a hF => hK _ _ ?_⟩
  clear hK K
  replace hA5 : Hp w0 ([row b1 45 [.pointer none, .slice none 0 0]] :: []) w4 := hA5
  refine vc_op rfl (fun K hK => ws_call hF rfl (by decide) cl19_s10 rfl rfl ?_)
  with_reducible refine (tt_rempty w0 _ ([row b1 45 [.pointer none, .slice none 0 0]] :: []) 32 256 hA5 ).mono ?_
  rintro e' w6 ⟨rfl, hA7⟩
  refine ⟨_, rfl, fun a hF => hK _ _ ?_⟩
  clear hK K
  replace hA7 : Hp w0 ([row b1 45 [.pointer none, .slice none 0 0]] :: []) w6 := hA7
  rw [show (min (max (256 : Int) 0) 256).toNat = 256 from rfl] at hF
  refine vc_y hF rfl rfl (by decide) _ (y_neB rfl Tryd.underlying23 Tryd.underlying5 sz5_s10 (by kernel_rfl) rfl rfl (emptyL_length _ _) (emptyL_length _ _) (show (!decide (emptyL 32 256 = emptyL 32 256)) = false by rw [decide_eq_true rfl]; rfl)) (fun a hF => ?_)
  refine vc_y hF rfl rfl (by decide) _ (y_move rfl rfl) (fun a hF => ?_)
  refine vc_yg hF rfl rfl rfl rfl rfl (by decide) _ (y_ldRow (new := [.pointer none, .slice none 0 0]) rfl hA7.q rfl 0 rfl rw45_s10 (Nat.le_of_ble_eq_true rfl) rfl) (fun a hF => ?_)
  refine vc_opg hF rfl rfl rfl rfl (fun K hK => ws_call hF rfl (by decide) cl20_s10 rfl rfl ?_)
  with_reducible refine (rx_len0 w0 _ ([row b1 45 [.pointer none, .slice none 0 0]] :: []) hA7 ).mono ?_
  rintro e' w8 ⟨rfl, hA9⟩
  refine ⟨_, rfl, fun a hF => hK _ _ ?_⟩
  clear hK K
  replace hA9 : Hp w0 ([row b1 45 [.pointer none, .slice none 0 0]] :: []) w8 := hA9
  refine vc_yg hF rfl rfl rfl rfl rfl (by decide) _ (y_cmp rfl rfl rfl rfl (neq_f (by omega))) (fun a hF => ?_)
  refine vc_y hF rfl rfl (by decide) _ (y_pick rfl rfl rfl) (fun a hF => ?_)
  refine vc_nil ?_
  refine hK5 _ _ ?_; clear  hK5 K5
  refine vc_false hF rfl ?_
  apply wp_skip
  refine hK4 _ _ ?_; clear  hK4 K4
  apply wp_seq_k; intro K6 hK6
  refine wp_region_lit ?_
  refine vc_op rfl (fun K hK => ws_call hF rfl (by decide) cl21_s10 rfl rfl ?_)
  with_reducible refine (tt_rkey0 w0 _ ([row b1 45 [.pointer none, .slice none 0 0]] :: []) [109, 45, 55] (by decide) hA9 ).mono ?_
  rintro e' w10 ⟨rfl, hA11⟩
  refine ⟨_, rfl, fun a hF => hK _ _ ?_⟩
  clear hK K
  replace hA11 : Hp w0 ([row b1 45 [.pointer none, .slice none 0 0]] :: []) w10 := hA11
  rw [← hik] at hF
  refine vc_op rfl (fun K hK => hs_alloc hF rfl (by decide) rfl hA11 (zr23_s10) (fun b12 w13 a hb12 hF hA14 => hK _ _ ?_))
  clear hK K
  replace hA14 : Hp w0 ([row b12 23 (dc (List.replicate 32 0))] :: [row b1 45 [.pointer none, .slice none 0 0]] :: []) w13 := hA14
  refine vc_op rfl (fun K hK => hs_storeAll (new := dc i.k) hF rfl rfl hA14 rfl rfl 0 rfl (by rw [hdk]; rfl) (dc_one _) sz23_s10 (fun w15 hA16 => hK _ _ ?_))
  clear hK K
  replace hA16 : Hp w0 ([row b12 23 (dc i.k)] :: [row b1 45 [.pointer none, .slice none 0 0]] :: []) w15 := hA16
  refine vc_nil ?_
  refine hK6 _ _ ?_; clear  hK6 K6
  apply wp_seq_k; intro K7 hK7
  refine wp_region_lit ?_
  refine vc_y hF rfl rfl (by decide) _ (y_ldRow (new := [.pointer none, .slice none 0 0]) rfl hA16.q rfl 1 rfl rw45_s10 (Nat.le_of_ble_eq_true rfl) rfl) (fun a hF => ?_)
  refine vc_y hF rfl rfl (by decide) _ (y_ldRow (new := dc i.k) rfl hA16.q rfl 0 rfl rw23_s10 (by rw [hdk]; exact Nat.le_refl _) (by rw [List.drop_zero]; exact List.take_of_length_le (by rw [hdk]; exact Nat.le_refl _))) (fun a hF => ?_)
  refine vc_y hF rfl rfl (by decide) _ (y_build (v := .agg (dc i.ch).toArray) (qs := #[(0, .int .u8 1)]) rfl rfl (by intro w; rw [hich]; exact rn_b1 w)) (fun a hF => ?_)
  refine vc_y hF rfl rfl (by decide) _ (y_build (v := .agg (.int .i64 i.ct :: dc i.ch).toArray) (qs := #[(0, .int .i64 3), (1, .agg (dc i.ch).toArray)]) rfl rfl (by intro w; rw [hich, hict]; exact rn_b2 w)) (fun a hF => ?_)
  refine vc_op rfl (fun K hK => ws_call hF rfl (by decide) cl22_s10 rfl rfl ?_)
  with_reducible refine (rx_tput w0 _ ([row b12 23 (dc i.k)] :: [row b1 45 [.pointer none, .slice none 0 0]] :: []) i hi (by rw [hict]; decide) hT hA16 ).mono ?_
  rintro e' w17 ⟨gn, A, c, X, rfl, hRc, hA18⟩
  refine ⟨_, rfl, fun a hF => hK _ _ ?_⟩
  clear hK K
  replace hA18 : Hp w0 ([row gn 107 (leafC i)] :: X :: [row b12 23 (dc i.k)] :: [row b1 45 [.pointer none, .slice none 0 0]] :: []) w17 := hA18
  obtain ⟨be_, qe, hAE, _⟩ := hRc.ne (i := 0) (by rw [digs_len _ _ (fun i _ => emptyL_length _ _)]; decide)
  refine vc_y hF rfl rfl (by decide) _ (y_move rfl rfl) (fun a hF => ?_)
  refine vc_y hF rfl rfl (by decide) _ (y_extract (v := .agg ([.pointer (some ⟨gn, 0, none⟩), .slice A 257 c]).toArray) rfl rfl rfl) (fun a hF => ?_)
  refine vc_y hF rfl rfl (by decide) _ (y_extract (v := .int .i64 0) rfl rfl rfl) (fun a hF => ?_)
  refine vc_op rfl (fun K hK => hs_alloc hF rfl (by decide) rfl hA18 (zr45_s10) (fun b19 w20 a hb19 hF hA21 => hK _ _ ?_))
  clear hK K
  replace hA21 : Hp w0 ([row b19 45 [.pointer none, .slice none 0 0]] :: [row gn 107 (leafC i)] :: X :: [row b12 23 (dc i.k)] :: [row b1 45 [.pointer none, .slice none 0 0]] :: []) w20 := hA21
  refine vc_op rfl (fun K hK => hs_storeAll (new := [.pointer (some ⟨gn, 0, none⟩), .slice A 257 c]) hF rfl rfl hA21 rfl rfl 0 rfl rfl (by simp [Value.oneCell']) sz45_s10 (fun w22 hA23 => hK _ _ ?_))
  clear hK K
  replace hA23 : Hp w0 ([row b19 45 [.pointer (some ⟨gn, 0, none⟩), .slice A 257 c]] :: [row gn 107 (leafC i)] :: X :: [row b12 23 (dc i.k)] :: [row b1 45 [.pointer none, .slice none 0 0]] :: []) w22 := hA23
  refine vc_y hF rfl rfl (by decide) _ (y_assign rfl rfl) (fun a hF => ?_)
  refine vc_nil ?_
  refine hK7 _ _ ?_; clear  hK7 K7
  apply wp_seq_k; intro K8 hK8
  have hFn := hF
  subst hAE
  have hF := hFn
  refine wp_region_fork 18 [4,9,14,15,18] (.op 0 (.op 1 (.op 2 (.op 3 (.op 4 (.op 5 (.op 6 (.op 7 (.op 8 (.op 10 (.op 11 (.op 12 (.op 13 (.fork 9 14 (.op 14 (.op 15 (.op 16 (.op 17 (.op 18 .done))))) (.op 9 (.op 15 (.op 16 (.op 17 (.op 18 .done))))))))))))))))))) (fun x => Hq w0 ([row b19 45 [.pointer (some ⟨gn, 0, none⟩), .slice (some ⟨be_, qe, none⟩) 257 c]] :: [row gn 107 (leafC i)] :: X :: [row b12 23 (dc i.k)] :: [row b1 45 [.pointer none, .slice none 0 0]] :: []) x) (by kernel_rfl) (by kernel_rfl) (Hq.drew (Hp.qp [[row b19 45 [.pointer (some ⟨gn, 0, none⟩), .slice (some ⟨be_, qe, none⟩) 257 c]], [row gn 107 (leafC i)], X, [row b12 23 (dc i.k)], [row b1 45 [.pointer none, .slice none 0 0]]] [] [0, 1, 2, 3, 4] hA23)) ?_
  have hA24 := Hl.drew hA23
  refine vt_y hF rfl rfl rfl rfl (by decide) _ (fun x hx => y_move rfl rfl) (fun a hF => ?_)
  refine vt_y hF rfl rfl rfl rfl (by decide) _ (fun x hx => y_cmp rfl rfl rfl rfl (eql_t (by omega))) (fun a hF => ?_)
  refine vt_y hF rfl rfl rfl rfl (by decide) _ (fun x hx => y_move rfl rfl) (fun a hF => ?_)
  refine vt_yg hF rfl rfl rfl rfl rfl rfl rfl (by decide) _ (fun x hx => y_ldRow (new := [.pointer (some ⟨gn, 0, none⟩), .slice (some ⟨be_, qe, none⟩) 257 c]) rfl hx rfl 0 rfl rw45_s10 (Nat.le_of_ble_eq_true rfl) rfl) (fun a hF => ?_)
  refine vt_lg hF rfl rfl rfl rfl rfl rfl (fun K hK => ws_call hF rfl (by decide) cl20_s10 rfl rfl ?_)
  with_reducible refine (rx_len1 w0 _ ([row b19 45 [.pointer (some ⟨gn, 0, none⟩), .slice (some ⟨be_, qe, none⟩) 257 c]] :: [row gn 107 (leafC i)] :: X :: [row b12 23 (dc i.k)] :: [row b1 45 [.pointer none, .slice none 0 0]] :: []) _ sub0 i hi gn (Rw.ofRow (i := 1) rfl) _ hA24 ).mono ?_
  rintro e' w25 ⟨rfl, hA26⟩
  refine ⟨_, rfl, fun a hF => hK _ _ (fun _ => ?_) ?_⟩
  · exact Hp.qp [[row b19 45 [.pointer (some ⟨gn, 0, none⟩), .slice (some ⟨be_, qe, none⟩) 257 c]], [row gn 107 (leafC i)], X, [row b12 23 (dc i.k)], [row b1 45 [.pointer none, .slice none 0 0]]] [] [0, 1, 2, 3, 4] hA26
  clear hK K
  replace hA26 : Hp w0 ([row b19 45 [.pointer (some ⟨gn, 0, none⟩), .slice (some ⟨be_, qe, none⟩) 257 c]] :: [row gn 107 (leafC i)] :: X :: [row b12 23 (dc i.k)] :: [row b1 45 [.pointer none, .slice none 0 0]] :: []) w25 := hA26
  refine vt_yg hF rfl rfl rfl rfl rfl rfl rfl (by decide) _ (fun x hx => y_cmp rfl rfl rfl rfl (eql_t (by omega))) (fun a hF => ?_)
  refine vt_y hF rfl rfl rfl rfl (by decide) _ (fun x hx => y_pick rfl rfl rfl) (fun a hF => ?_)
  refine vt_y hF rfl rfl rfl rfl (by decide) _ (fun x hx => y_move rfl rfl) (fun a hF => ?_)
  refine vt_yg hF rfl rfl rfl rfl rfl rfl rfl (by decide) _ (fun x hx => y_ldRow (new := [.pointer (some ⟨gn, 0, none⟩), .slice (some ⟨be_, qe, none⟩) 257 c]) rfl hx rfl 0 rfl rw45_s10 (Nat.le_of_ble_eq_true rfl) rfl) (fun a hF => ?_)
  refine vt_yg hF rfl rfl rfl rfl rfl rfl rfl (by decide) _ (fun x hx => y_ldRow (new := dc i.k) rfl hx rfl 3 rfl rw23_s10 (by rw [hdk]; exact Nat.le_refl _) (by rw [List.drop_zero]; exact List.take_of_length_le (by rw [hdk]; exact Nat.le_refl _))) (fun a hF => ?_)
  refine vt_yg hF rfl rfl rfl rfl rfl rfl rfl (by decide) _ (fun x hx => y_build (v := .agg (dc i.ch).toArray) (qs := #[(0, .int .u8 1)]) rfl rfl (by intro w; rw [hich]; exact rn_b1 w)) (fun a hF => ?_)
  refine vt_yg hF rfl rfl rfl rfl rfl rfl rfl (by decide) _ (fun x hx => y_build (v := .agg (.int .i64 i.ct :: dc i.ch).toArray) (qs := #[(0, .int .i64 3), (1, .agg (dc i.ch).toArray)]) rfl rfl (by intro w; rw [hich, hict]; exact rn_b2 w)) (fun a hF => ?_)
  refine vt_yg hF rfl rfl rfl rfl rfl rfl rfl (by decide) _ (fun x hx => y_build (v := .agg i.cells.toArray) (qs := #[(0, .agg (dc i.k).toArray), (1, .agg (.int .i64 i.ct :: dc i.ch).toArray)]) rfl rfl (by exact rs_item hi)) (fun a hF => ?_)
  refine vt_forkg hF rfl rfl rfl rfl rfl rfl rfl rfl rfl rfl (fun K hK => ?_) (fun K hK => ?_)
  · refine ws_call hF rfl (by decide) cl18_s10 rfl rfl ?_
    with_reducible refine (rx_root1 w0 _ ([row b19 45 [.pointer (some ⟨gn, 0, none⟩), .slice (some ⟨be_, qe, none⟩) 257 c]] :: [row gn 107 (leafC i)] :: X :: [row b12 23 (dc i.k)] :: [row b1 45 [.pointer none, .slice none 0 0]] :: []) _ sub0 i hi gn (Rw.ofRow (i := 1) rfl) ⟨be_, qe, none⟩ c (hRc.mono (sub1 (List.mem_cons_of_mem _ (List.mem_cons_of_mem _ ((List.mem_cons_self ..)))))) hT hA26 ).mono ?_
    rintro e' w27 ⟨rfl, hA28⟩
    refine ⟨_, rfl, fun a hF => hK _ _ ?_ ?_⟩
    · exact Hp.qp [[row b19 45 [.pointer (some ⟨gn, 0, none⟩), .slice (some ⟨be_, qe, none⟩) 257 c]], [row gn 107 (leafC i)], X, [row b12 23 (dc i.k)], [row b1 45 [.pointer none, .slice none 0 0]]] [] [0, 1, 2, 3, 4] hA28
    clear hK K
    replace hA28 : Hp w0 ([row b19 45 [.pointer (some ⟨gn, 0, none⟩), .slice (some ⟨be_, qe, none⟩) 257 c]] :: [row gn 107 (leafC i)] :: X :: [row b12 23 (dc i.k)] :: [row b1 45 [.pointer none, .slice none 0 0]] :: []) w27 := hA28
    refine vt_lg hF rfl rfl rfl rfl rfl rfl (fun K hK => hs_bs (qs := #[(0, .agg i.cells.toArray)]) (cells := i.cells.toArray) hF rfl (by decide) rfl hA28 rfl (by exact rs_slice hi) (fun b29 w30 a hb29 hF hA31 => hK _ _ (fun _ => ?_) ?_))
    · exact Hp.qp [[row b29 54 i.cells], [row b19 45 [.pointer (some ⟨gn, 0, none⟩), .slice (some ⟨be_, qe, none⟩) 257 c]], [row gn 107 (leafC i)], X, [row b12 23 (dc i.k)], [row b1 45 [.pointer none, .slice none 0 0]]] [] [1, 2, 3, 4, 5] hA31
    clear hK K
    replace hA31 : Hp w0 ([row b29 54 i.cells] :: [row b19 45 [.pointer (some ⟨gn, 0, none⟩), .slice (some ⟨be_, qe, none⟩) 257 c]] :: [row gn 107 (leafC i)] :: X :: [row b12 23 (dc i.k)] :: [row b1 45 [.pointer none, .slice none 0 0]] :: []) w30 := hA31
    refine vt_lg hF rfl rfl rfl rfl rfl rfl (fun K hK => ws_call hF rfl (by decide) cl23_s10 rfl rfl ?_)
    with_reducible refine (rs_root1 w0 _ ([row b29 54 i.cells] :: [row b19 45 [.pointer (some ⟨gn, 0, none⟩), .slice (some ⟨be_, qe, none⟩) 257 c]] :: [row gn 107 (leafC i)] :: X :: [row b12 23 (dc i.k)] :: [row b1 45 [.pointer none, .slice none 0 0]] :: []) _ sub0 32 (some ⟨b29, 0, none⟩) i hi (Rc.ofRow (i := 0) (off := 0) rfl (by rw [List.drop_zero]; exact List.take_length ..)) hA31 ).mono ?_
    rintro e' w32 ⟨rfl, hA33⟩
    refine ⟨_, rfl, fun a hF => hK _ _ (fun _ => ?_) ?_⟩
    · exact Hp.qp [[row b29 54 i.cells], [row b19 45 [.pointer (some ⟨gn, 0, none⟩), .slice (some ⟨be_, qe, none⟩) 257 c]], [row gn 107 (leafC i)], X, [row b12 23 (dc i.k)], [row b1 45 [.pointer none, .slice none 0 0]]] [] [1, 2, 3, 4, 5] hA33
    clear hK K
    replace hA33 : Hp w0 ([row b29 54 i.cells] :: [row b19 45 [.pointer (some ⟨gn, 0, none⟩), .slice (some ⟨be_, qe, none⟩) 257 c]] :: [row gn 107 (leafC i)] :: X :: [row b12 23 (dc i.k)] :: [row b1 45 [.pointer none, .slice none 0 0]] :: []) w32 := hA33
    refine vt_yg hF rfl rfl rfl rfl rfl rfl rfl (by decide) _ (fun x hx => y_eqB rfl Tryd.underlying23 Tryd.underlying5 sz5_s10 (by kernel_rfl) rfl rfl (liftD_length (entryD_length _ _) _ _) (liftD_length (entryD_length _ _) _ _) (decide_eq_true rfl)) (fun a hF => ?_)
    refine vt_y hF rfl rfl rfl rfl (by decide) _ (fun x hx => y_pick rfl rfl rfl) (fun a hF => ?_)
    refine vt_ly hF rfl rfl rfl rfl (by decide) _ (y_assign rfl rfl) (fun h => absurd h (by decide)) (fun a hF => ?_)
    refine pt_end ?_
    refine hK8 _ _ ?_; clear  hK8 K8
    apply wp_ret
    refine vc_ret1 hF Tryd.results4 rfl ?_
    exact ⟨rfl, hA33.at0⟩
  · refine hs_bs (qs := #[(0, .agg i.cells.toArray)]) (cells := i.cells.toArray) hF rfl (by decide) rfl hA26 rfl (by exact rs_slice hi) (fun b34 w35 a hb34 hF hA36 => hK _ _ ?_ ?_)
    · exact Hp.qp [[row b34 54 i.cells], [row b19 45 [.pointer (some ⟨gn, 0, none⟩), .slice (some ⟨be_, qe, none⟩) 257 c]], [row gn 107 (leafC i)], X, [row b12 23 (dc i.k)], [row b1 45 [.pointer none, .slice none 0 0]]] [] [1, 2, 3, 4, 5] hA36
    clear hK K
    replace hA36 : Hp w0 ([row b34 54 i.cells] :: [row b19 45 [.pointer (some ⟨gn, 0, none⟩), .slice (some ⟨be_, qe, none⟩) 257 c]] :: [row gn 107 (leafC i)] :: X :: [row b12 23 (dc i.k)] :: [row b1 45 [.pointer none, .slice none 0 0]] :: []) w35 := hA36
    refine vt_lg hF rfl rfl rfl rfl rfl rfl (fun K hK => ws_call hF rfl (by decide) cl18_s10 rfl rfl ?_)
    with_reducible refine (rx_root1 w0 _ ([row b34 54 i.cells] :: [row b19 45 [.pointer (some ⟨gn, 0, none⟩), .slice (some ⟨be_, qe, none⟩) 257 c]] :: [row gn 107 (leafC i)] :: X :: [row b12 23 (dc i.k)] :: [row b1 45 [.pointer none, .slice none 0 0]] :: []) _ sub0 i hi gn (Rw.ofRow (i := 2) rfl) ⟨be_, qe, none⟩ c (hRc.mono (sub1 (List.mem_cons_of_mem _ (List.mem_cons_of_mem _ (List.mem_cons_of_mem _ ((List.mem_cons_self ..))))))) hT hA36 ).mono ?_
    rintro e' w37 ⟨rfl, hA38⟩
    refine ⟨_, rfl, fun a hF => hK _ _ (fun _ => ?_) ?_⟩
    · exact Hp.qp [[row b34 54 i.cells], [row b19 45 [.pointer (some ⟨gn, 0, none⟩), .slice (some ⟨be_, qe, none⟩) 257 c]], [row gn 107 (leafC i)], X, [row b12 23 (dc i.k)], [row b1 45 [.pointer none, .slice none 0 0]]] [] [1, 2, 3, 4, 5] hA38
    clear hK K
    replace hA38 : Hp w0 ([row b34 54 i.cells] :: [row b19 45 [.pointer (some ⟨gn, 0, none⟩), .slice (some ⟨be_, qe, none⟩) 257 c]] :: [row gn 107 (leafC i)] :: X :: [row b12 23 (dc i.k)] :: [row b1 45 [.pointer none, .slice none 0 0]] :: []) w37 := hA38
    refine vt_lg hF rfl rfl rfl rfl rfl rfl (fun K hK => ws_call hF rfl (by decide) cl23_s10 rfl rfl ?_)
    with_reducible refine (rs_root1 w0 _ ([row b34 54 i.cells] :: [row b19 45 [.pointer (some ⟨gn, 0, none⟩), .slice (some ⟨be_, qe, none⟩) 257 c]] :: [row gn 107 (leafC i)] :: X :: [row b12 23 (dc i.k)] :: [row b1 45 [.pointer none, .slice none 0 0]] :: []) _ sub0 32 (some ⟨b34, 0, none⟩) i hi (Rc.ofRow (i := 0) (off := 0) rfl (by rw [List.drop_zero]; exact List.take_length ..)) hA38 ).mono ?_
    rintro e' w39 ⟨rfl, hA40⟩
    refine ⟨_, rfl, fun a hF => hK _ _ (fun _ => ?_) ?_⟩
    · exact Hp.qp [[row b34 54 i.cells], [row b19 45 [.pointer (some ⟨gn, 0, none⟩), .slice (some ⟨be_, qe, none⟩) 257 c]], [row gn 107 (leafC i)], X, [row b12 23 (dc i.k)], [row b1 45 [.pointer none, .slice none 0 0]]] [] [1, 2, 3, 4, 5] hA40
    clear hK K
    replace hA40 : Hp w0 ([row b34 54 i.cells] :: [row b19 45 [.pointer (some ⟨gn, 0, none⟩), .slice (some ⟨be_, qe, none⟩) 257 c]] :: [row gn 107 (leafC i)] :: X :: [row b12 23 (dc i.k)] :: [row b1 45 [.pointer none, .slice none 0 0]] :: []) w39 := hA40
    refine vt_yg hF rfl rfl rfl rfl rfl rfl rfl (by decide) _ (fun x hx => y_eqB rfl Tryd.underlying23 Tryd.underlying5 sz5_s10 (by kernel_rfl) rfl rfl (liftD_length (entryD_length _ _) _ _) (liftD_length (entryD_length _ _) _ _) (decide_eq_true rfl)) (fun a hF => ?_)
    refine vt_y hF rfl rfl rfl rfl (by decide) _ (fun x hx => y_pick rfl rfl rfl) (fun a hF => ?_)
    refine vt_ly hF rfl rfl rfl rfl (by decide) _ (y_assign rfl rfl) (fun h => absurd h (by decide)) (fun a hF => ?_)
    refine pt_end ?_
    refine hK8 _ _ ?_; clear  hK8 K8
    apply wp_ret
    refine vc_ret1 hF Tryd.results4 rfl ?_
    exact ⟨rfl, hA40.at0⟩
end Go.Proofs.YtpomngkcfbnjoaaDoor
