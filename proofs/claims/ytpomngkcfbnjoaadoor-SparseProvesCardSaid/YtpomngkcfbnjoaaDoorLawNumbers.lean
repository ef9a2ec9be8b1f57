/- The walk of SparseNumbers. -/
import Derived.Test.YtpomngkcfbnjoaaDoorSp9
import Derived.Test.YtpomngkcfbnjoaaDoorBook0
namespace Go.Proofs.YtpomngkcfbnjoaaDoor
open Go.RowKit Go.Dk

theorem rs_rempties (w0 w : World) (R : List Seg) (width : Int) (hA : Hp w0 R w) : Calls Tryd.prog 47 #[.int .i64 width] w fun e w' => ∃ A c Z, e = .returned (.slice A 257 c) ∧ Rc w0 [Z] A (digs (emptyL width) 257) ∧ Hp w0 (Z :: R) w' := by
  refine (empties_any w width).mono ?_
  rintro e w' ⟨v, X, rfl, hO, hw⟩
  obtain ⟨g, c, Z, rfl, _, hg, rfl⟩ := own_row hO (by decide)
  exact ⟨some ⟨g, 0, none⟩, c, _, rfl, Rc.ofRow (i := 0) (off := 0) rfl (by rw [List.drop_zero]; exact List.take_left' rfl), hA.thenNew hw (new1 hg)⟩
theorem rs_len {l : List Itm} (h : ∀ i ∈ l, i.OK) : (cel Itm.cells l).length = l.length * 65 := cel_len (fun i hi => Itm.len (h i hi))
theorem rs_at {l : List Itm} (h : ∀ i ∈ l, i.OK) {n : Nat} {i : Itm} (hn : l[n]? = some i) : ((cel Itm.cells l).drop (n * 65)).take 65 = i.cells ∧ n * 65 + 65 ≤ (cel Itm.cells l).length := cel_at (fun i hi => Itm.len (h i hi)) hn
theorem take32 {W : List Value} {m : Nat} : (W.drop m).take 32 = ((W.drop m).take 65).take 32 := by rw [List.take_take]; rfl
theorem drop32 {W : List Value} {m : Nat} : (W.drop (m + 32)).take 33 = (((W.drop m).take 65).drop 32).take 33 := by
  rw [List.drop_take, List.take_take, List.drop_drop]; rfl
theorem rs_key {l : List Itm} (h : ∀ i ∈ l, i.OK) {n : Nat} {i : Itm} (hn : l[n]? = some i) : ((cel Itm.cells l).drop (n * 65)).take 32 = dc i.k := by
  rw [take32, (rs_at h hn).1]; exact Itm.c_key (h i (List.mem_of_getElem? hn))
theorem rs_ent {l : List Itm} (h : ∀ i ∈ l, i.OK) {n : Nat} {i : Itm} (hn : l[n]? = some i) : ((cel Itm.cells l).drop (n * 65 + 32)).take 33 = i.ent := by
  rw [drop32, (rs_at h hn).1]; exact Itm.c_ent (h i (List.mem_of_getElem? hn))
theorem tw_split {p : Itm → Bool} : ∀ {l : List Itm} {n : Nat}, n ≤ l.length → (∀ j i, j < n → l[j]? = some i → p i = true) → (∀ i, l[n]? = some i → p i = false) → l.takeWhile p = l.take n ∧ l.dropWhile p = l.drop n
  | [], n, hn, _, _ => by simp
  | i :: l, 0, _, _, h2 => by
    have h3 := h2 i rfl
    have h4 : ¬ p i = true := by rw [h3]; exact Bool.false_ne_true
    rw [List.takeWhile_cons_of_neg h4, List.dropWhile_cons_of_neg h4]; exact ⟨rfl, rfl⟩
  | i :: l, n + 1, hn, h1, h2 => by
    have h3 := h1 0 i (Nat.succ_pos _) rfl
    obtain ⟨e1, e2⟩ := tw_split (p := p) (l := l) (n := n) (by simpa using hn) (fun j i' hj hi => h1 (j + 1) i' (by omega) hi) (fun i' hi => h2 i' hi)
    rw [List.takeWhile_cons_of_pos h3, List.dropWhile_cons_of_pos h3, e1, e2]; exact ⟨rfl, rfl⟩
theorem subE_go {width : Int} {h : Nat} {l : List Itm} (hl : l ≠ []) : subE width (h + 1) l = branchL width (subE width h (l.takeWhile (zeroBit (255 - h)))) (subE width h (l.dropWhile (zeroBit (255 - h)))) := by
  cases l with
  | nil => exact absurd rfl hl
  | cons i l => exact subE_succ width h i l
theorem subE_length (width : Int) (h : Nat) (l : List Itm) : (subE width h l).length = 32 := by
  cases l with
  | nil => rw [subE_nil]; exact emptyL_length _ _
  | cons i l =>
    cases h with
    | zero => rw [subE_zero]; exact entryD_length _ _
    | succ h => rw [subE_succ]; exact branchL_length ..
theorem rs_take {w0 : World} {R : List Seg} {A : Option Addr} {l : List Itm} (n : Nat) (h : ∀ i ∈ l, i.OK) (hR : Rc w0 R A (cel Itm.cells l)) : Rc w0 R A (cel Itm.cells (l.take n)) := by
  have e : cel Itm.cells l = cel Itm.cells (l.take n) ++ cel Itm.cells (l.drop n) := by rw [← cel_append, List.take_append_drop]
  have h1 := hR.take (cel Itm.cells (l.take n)).length
  rw [e, List.take_left' rfl] at h1
  exact h1
theorem rs_drop {w0 : World} {R : List Seg} {A : Option Addr} {l : List Itm} (n c : Nat) (h : ∀ i ∈ l, i.OK) (hn : n ≤ l.length) (hc : l.length ≤ c) (hR : Rc w0 R A (cel Itm.cells l)) : Rc w0 R (sub A n c 65) (cel Itm.cells (l.drop n)) := by
  have h1 := hR.drop n 65 (cap := c) (by rw [rs_len h]; exact Nat.mul_le_mul_right _ hc)
  have e : cel Itm.cells l = cel Itm.cells (l.take n) ++ cel Itm.cells (l.drop n) := by rw [← cel_append, List.take_append_drop]
  have h2 : (cel Itm.cells (l.take n)).length = n * 65 := by rw [rs_len (fun i hi => h i (List.mem_of_mem_take hi)), List.length_take, Nat.min_eq_left hn]
  rw [e, List.drop_left' h2] at h1
  exact h1
set_option maxRecDepth 100000 in
theorem rs_item0 (f g : Nat → UInt8) (c : Int) (w : World) : (Instr.build 54 #[(0, .agg (dc ((List.range 32).map f)).toArray), (1, .agg (.int .i64 c :: dc ((List.range 32).map g)).toArray)]).run Tryd.prog w = .ok (.agg (Itm.cells ⟨(List.range 32).map f, c, (List.range 32).map g⟩).toArray) w := by kernel_rfl
theorem rs_item {i : Itm} (h : i.OK) (w : World) : (Instr.build 54 #[(0, .agg (dc i.k).toArray), (1, .agg (.int .i64 i.ct :: dc i.ch).toArray)]).run Tryd.prog w = .ok (.agg i.cells.toArray) w := by
  have h1 := rs_item0 (bAt i.k) (bAt i.ch) i.ct w
  rw [list32 h.k, list32 h.ch] at h1
  exact h1
set_option maxRecDepth 100000 in
theorem rs_slice0 (f g : Nat → UInt8) (c : Int) (w : World) : (Instr.buildSlice 55 1 #[(0, .agg (Itm.cells ⟨(List.range 32).map f, c, (List.range 32).map g⟩).toArray)]).run Tryd.prog w = .ok (.slice (some ⟨w.heap.size, 0, none⟩) 1 1) (w.alloc (.cells (Itm.cells ⟨(List.range 32).map f, c, (List.range 32).map g⟩).toArray 54)) := by kernel_rfl
theorem rs_slice {i : Itm} (h : i.OK) (w : World) : (Instr.buildSlice 55 1 #[(0, .agg i.cells.toArray)]).run Tryd.prog w = .ok (.slice (some ⟨w.heap.size, 0, none⟩) 1 1) (w.alloc (.cells i.cells.toArray 54)) := by
  have h1 := rs_slice0 (bAt i.k) (bAt i.ch) i.ct w
  rw [list32 h.k, list32 h.ch] at h1
  exact h1
theorem rw23_s10 : isRow Tryd.prog 23 32 = true := by kernel_rfl
theorem rw25_s10 : isRow Tryd.prog 25 33 = true := by kernel_rfl
theorem sz23_s10 : (Tryd.prog.info? 23).map (·.size) = some 32 := by kernel_rfl
theorem sz25_s10 : (Tryd.prog.info? 25).map (·.size) = some 33 := by kernel_rfl
theorem sz54_s10 : (Tryd.prog.info? 54).map (·.size) = some 65 := by kernel_rfl
theorem cl52_s10 : CallsTo Tryd.prog 52 := ⟨_, Tryd.func52, by kernel_rfl, by kernel_rfl⟩
theorem cl58_s10 : CallsTo Tryd.prog 58 := ⟨_, Tryd.func58, by kernel_rfl, by kernel_rfl⟩
theorem cl78_s10 : CallsTo Tryd.prog 78 := ⟨_, Tryd.func78, by kernel_rfl, by kernel_rfl⟩
theorem cl89_s10 : CallsTo Tryd.prog 89 := ⟨_, Tryd.func89, by kernel_rfl, by kernel_rfl⟩

theorem zr23_s10 : zeroIs Tryd.prog 23 (.agg (dc (List.replicate 32 0)).toArray) := by unfold zeroIs; kernel_rfl
set_option maxRecDepth 100000 in
set_option maxHeartbeats 2000000 in
theorem rs_sub (w0 : World) (G : List Seg) (width : Int) (AE : Option Addr) (cE : Nat) (hE : Rc w0 G AE (digs (emptyL width) 257)) : ∀ (h : Nat) (_hh : h ≤ 256) (w : World) (R : List Seg) (_hG : G ⊆ R) (A : Option Addr) (l : List Itm) (c : Nat) (_hlc : l.length ≤ c) (_hcm : l.length ≤ 9223372036854775807) (_hI : ∀ i ∈ l, i.OK) (_hL : Rc w0 G A (cel Itm.cells l)) (_hA : Hp w0 R w),
    Calls Tryd.prog 58 #[.int .i64 width, .slice A l.length c, .int .i64 ((256 - h : Nat) : Int), .slice AE 257 cE] w fun e w' => e = .returned (.agg (dc (subE width h l)).toArray) ∧ Hp w0 R w' := by
  intro h
  induction h with
  | zero =>
    intro hh w R hG A l c hlc hcm hI hL hA
    rw [show 256 - 0 = 256 from rfl]
    have hdle := emptyL_length width
    have hds : (dc (subE width 0 l)).length = 32 := by rw [dc_length, subE_length]
    refine vc_enter Tryd.func58 rfl Tryd.ntmps58 (Nat.le_of_ble_eq_true rfl) (fun a hF => ?_)
    apply wp_seq_k; intro K1 hK1
    refine wp_region_lit ?_
    refine vc_op rfl (fun K hK => hs_alloc hF rfl (by decide) rfl hA (zr23_s10) (fun b1 w2 a hb1 hF hA3 => hK _ _ ?_))
    clear hK K
    replace hA3 : Hp w0 ([row b1 23 (dc (List.replicate 32 0))] :: R) w2 := hA3
    refine vc_nil ?_
    refine hK1 _ _ ?_; clear  hK1 K1
    apply wp_seq_k; intro K2 hK2
    apply wp_seq_k; intro K3 hK3
    by_cases hl0 : l = []
    · have hse : subE width 0 l = emptyL width 0 := by rw [hl0, subE_nil]
      have hlz : l.length = 0 := by rw [hl0]; rfl
      refine wp_region_lit ?_
      refine vc_y hF rfl rfl (by decide) _ (y_move rfl rfl) (fun a hF => ?_)
      refine vc_y hF rfl rfl (by decide) _ (y_lenSl rfl Tryd.underlying55 rfl rfl) (fun a hF => ?_)
      refine vc_y hF rfl rfl (by decide) _ (y_cmp rfl rfl rfl rfl (eql_t (by omega))) (fun a hF => ?_)
      refine vc_nil ?_
      refine hK3 _ _ ?_; clear  hK3 K3
      refine vc_true hF rfl ?_
      obtain ⟨herd, hele⟩ := digs_rd (emptyL width) 257 0 (fun i _ => hdle i) (by omega)
      obtain ⟨be_, qe, hAE, hce⟩ := hE.ne (i := 0 * 32) (by omega)
      apply wp_seq_k; intro K4 hK4
      refine wp_region_lit ?_
      refine vc_y hF rfl rfl (by decide) _ (y_move rfl rfl) (fun a hF => ?_)
      refine vc_y hF rfl rfl (by decide) _ (y_move rfl rfl) (fun a hF => ?_)
      refine vc_y hF rfl rfl (by decide) _ (y_sub rfl rfl rfl (show IntKind.i64.wrap (256 - ((256 : Nat) : Int)) = ((0 : Nat) : Int) by rw [IntWalk.i64_in _ (by omega)]; omega)) (fun a hF => ?_)
      refine vc_y hF rfl rfl (by decide) _ (y_ixSl rfl Tryd.underlying26 sz23_s10 (by exact congrArg (fun A => some (Value.slice A 257 cE)) hAE) rfl 0 rfl (by omega) rfl) (fun a hF => ?_)
      refine vc_y hF rfl rfl (by decide) _ (y_ldRowC rfl (Hq.sub hA3.q (List.Subset.trans hG (subC (sub0)))) rfl hce (0 * 32) hele rfl (show List.take 32 (List.drop (0 * 32) (digs (emptyL width) 257)) = dc (subE width 0 l) by rw [hse]; exact herd) rw23_s10) (fun a hF => ?_)
      refine vc_op rfl (fun K hK => hs_storeAll (new := dc (subE width 0 l)) hF rfl rfl hA3 rfl rfl 0 rfl (by rw [hds]; rfl) (dc_one _) (by exact sz23_s10) (fun w4 hA5 => hK _ _ ?_))
      clear hK K
      replace hA5 : Hp w0 ([row b1 23 (dc (subE width 0 l))] :: R) w4 := hA5
      refine vc_nil ?_
      refine hK4 _ _ ?_; clear  hK4 K4
      apply wp_ret
      simp only [Exit.then]
      refine vc_retR hF Tryd.results58 hA5.q rfl 0 rfl (by rw [hds]; exact rw23_s10) ?_
      have hA6 : Hp w0 (R) w4 := Hp.sel [[row b1 23 (dc (subE width 0 l))]] R [] [0] hA5 rfl
      exact ⟨rfl, hA6⟩
    · have hpos : 0 < l.length := List.length_pos_iff.2 hl0
      refine wp_region_lit ?_
      refine vc_y hF rfl rfl (by decide) _ (y_move rfl rfl) (fun a hF => ?_)
      refine vc_y hF rfl rfl (by decide) _ (y_lenSl rfl Tryd.underlying55 rfl rfl) (fun a hF => ?_)
      refine vc_y hF rfl rfl (by decide) _ (y_cmp rfl rfl rfl rfl (eql_f (by omega))) (fun a hF => ?_)
      refine vc_nil ?_
      refine hK3 _ _ ?_; clear  hK3 K3
      refine vc_false hF rfl ?_
      apply wp_skip
      refine hK2 _ _ ?_; clear  hK2 K2
      apply wp_seq_k; intro K5 hK5
      apply wp_seq_k; intro K6 hK6
      refine wp_region_lit ?_
      refine vc_y hF rfl rfl (by decide) _ (y_move rfl rfl) (fun a hF => ?_)
      refine vc_y hF rfl rfl (by decide) _ (y_cmp rfl rfl rfl rfl (eql_t (by omega))) (fun a hF => ?_)
      refine vc_nil ?_
      refine hK6 _ _ ?_; clear  hK6 K6
      refine vc_true hF rfl ?_
      obtain ⟨i, hi0⟩ : ∃ i, l[0]? = some i := ⟨_, List.getElem?_eq_getElem hpos⟩
      have hiK := hI i (List.mem_of_getElem? hi0)
      have hse : entryD width i = subE width 0 l := by
        cases l with
        | nil => exact absurd rfl hl0
        | cons i' l' => rw [subE_zero]; cases hi0; rfl
      obtain ⟨hra, hrb⟩ := rs_at hI hi0
      obtain ⟨b, q, hA2, hc⟩ := hL.ne (i := 0 * 65) (by omega)
      apply wp_seq_k; intro K7 hK7
      refine wp_region_plan 10 [9,10] [0,1,2,3,4,5,6,7,8,9,10] (fun x => Hq w0 ([row b1 23 (dc (List.replicate 32 0))] :: R) x) (by kernel_rfl) (by kernel_rfl) (Hq.drew (Hp.qp [[row b1 23 (dc (List.replicate 32 0))]] R [0] hA3)) ?_
      have hA7 := Hl.drew hA3
      refine vp_y hF rfl rfl rfl rfl (by decide) _ (fun x hx => y_move rfl rfl) (fun a hF => ?_)
      refine vp_y hF rfl rfl rfl rfl (by decide) _ (fun x hx => y_move rfl rfl) (fun a hF => ?_)
      refine vp_y hF rfl rfl rfl rfl (by decide) _ (fun x hx => y_ixSl rfl Tryd.underlying55 sz54_s10 (by exact congrArg (fun A => some (Value.slice A l.length c)) hA2) rfl 0 rfl hpos rfl) (fun a hF => ?_)
      refine vp_y hF rfl rfl rfl rfl (by decide) _ (fun x hx => y_field rfl Tryd.underlying54 rfl sz23_s10 (by decide) rfl (rfl : (⟨_, _ + _, none⟩ : Addr) = ⟨b, q + 0 * 65 + 0, none⟩)) (fun a hF => ?_)
      refine vp_y hF rfl rfl rfl rfl (by decide) _ (fun x hx => y_ldRowC rfl (Hq.sub hx (List.Subset.trans hG (subC (sub0)))) rfl hc (0 * 65) (by omega) rfl (rs_key hI hi0) rw23_s10) (fun a hF => ?_)
      refine vp_y hF rfl rfl rfl rfl (by decide) _ (fun x hx => y_move rfl rfl) (fun a hF => ?_)
      refine vp_y hF rfl rfl rfl rfl (by decide) _ (fun x hx => y_ixSl rfl Tryd.underlying55 sz54_s10 (by exact congrArg (fun A => some (Value.slice A l.length c)) hA2) rfl 0 rfl hpos rfl) (fun a hF => ?_)
      refine vp_y hF rfl rfl rfl rfl (by decide) _ (fun x hx => y_field rfl Tryd.underlying54 rfl sz25_s10 (by decide) rfl (rfl : (⟨_, _ + _, none⟩ : Addr) = ⟨b, q + 0 * 65 + 32, none⟩)) (fun a hF => ?_)
      refine vp_y hF rfl rfl rfl rfl (by decide) _ (fun x hx => y_ldRowC rfl (Hq.sub hx (List.Subset.trans hG (subC (sub0)))) rfl hc (0 * 65 + 32) (by omega) (by omega) (rs_ent hI hi0) rw25_s10) (fun a hF => ?_)
      refine vp_l rfl rfl rfl (fun K hK => ws_call hF rfl (by decide) cl89_s10 rfl rfl ?_)
      with_reducible refine (tt_rentry w0 _ ([row b1 23 (dc (List.replicate 32 0))] :: R) width i.ct i.k i.ch hiK.k hiK.ch hA7 ).mono ?_
      rintro e' w8 ⟨rfl, hA9⟩
      refine ⟨_, rfl, fun a hF => hK _ _ (fun _ => ?_) ?_⟩
      · exact Hp.qp [[row b1 23 (dc (List.replicate 32 0))]] R [0] hA9
      clear hK K
      replace hA9 : Hp w0 ([row b1 23 (dc (List.replicate 32 0))] :: R) w8 := hA9
      rw [show ofL width 3 (i.k ++ be 8 (c64 i.ct) ++ i.ch) = subE width 0 l from hse] at hF
      refine vp_l rfl rfl rfl (fun K hK => hs_storeAll (new := dc (subE width 0 l)) hF rfl rfl hA9 rfl rfl 0 rfl (by rw [hds]; rfl) (dc_one _) (by exact sz23_s10) (fun w10 hA11 => hK _ _ (fun h => absurd h (by decide)) ?_))
      clear hK K
      replace hA11 : Hp w0 ([row b1 23 (dc (subE width 0 l))] :: R) w10 := hA11
      refine plan_end ?_
      refine hK7 _ _ ?_; clear  hK7 K7
      apply wp_ret
      simp only [Exit.then]
      refine vc_retR hF Tryd.results58 hA11.q rfl 0 rfl (by rw [hds]; exact rw23_s10) ?_
      have hA12 : Hp w0 (R) w10 := Hp.sel [[row b1 23 (dc (subE width 0 l))]] R [] [0] hA11 rfl
      exact ⟨rfl, hA12⟩
  | succ h ih =>
    intro hh w R hG A l c hlc hcm hI hL hA
    rw [show 256 - (h + 1) = 255 - h by omega]
    have hdle := emptyL_length width
    have hds : (dc (subE width (h + 1) l)).length = 32 := by rw [dc_length, subE_length]
    refine vc_enter Tryd.func58 rfl Tryd.ntmps58 (Nat.le_of_ble_eq_true rfl) (fun a hF => ?_)
    apply wp_seq_k; intro K1 hK1
    refine wp_region_lit ?_
    refine vc_op rfl (fun K hK => hs_alloc hF rfl (by decide) rfl hA (zr23_s10) (fun b1 w2 a hb1 hF hA3 => hK _ _ ?_))
    clear hK K
    replace hA3 : Hp w0 ([row b1 23 (dc (List.replicate 32 0))] :: R) w2 := hA3
    refine vc_nil ?_
    refine hK1 _ _ ?_; clear  hK1 K1
    apply wp_seq_k; intro K2 hK2
    apply wp_seq_k; intro K3 hK3
    by_cases hl0 : l = []
    · have hse : subE width (h + 1) l = emptyL width (h + 1) := by rw [hl0, subE_nil]
      have hlz : l.length = 0 := by rw [hl0]; rfl
      refine wp_region_lit ?_
      refine vc_y hF rfl rfl (by decide) _ (y_move rfl rfl) (fun a hF => ?_)
      refine vc_y hF rfl rfl (by decide) _ (y_lenSl rfl Tryd.underlying55 rfl rfl) (fun a hF => ?_)
      refine vc_y hF rfl rfl (by decide) _ (y_cmp rfl rfl rfl rfl (eql_t (by omega))) (fun a hF => ?_)
      refine vc_nil ?_
      refine hK3 _ _ ?_; clear  hK3 K3
      refine vc_true hF rfl ?_
      obtain ⟨herd, hele⟩ := digs_rd (emptyL width) 257 (h + 1) (fun i _ => hdle i) (by omega)
      obtain ⟨be_, qe, hAE, hce⟩ := hE.ne (i := (h + 1) * 32) (by omega)
      apply wp_seq_k; intro K4 hK4
      refine wp_region_lit ?_
      refine vc_y hF rfl rfl (by decide) _ (y_move rfl rfl) (fun a hF => ?_)
      refine vc_y hF rfl rfl (by decide) _ (y_move rfl rfl) (fun a hF => ?_)
      refine vc_y hF rfl rfl (by decide) _ (y_sub rfl rfl rfl (show IntKind.i64.wrap (256 - (((255 - h) : Nat) : Int)) = (((h + 1) : Nat) : Int) by rw [IntWalk.i64_in _ (by omega)]; omega)) (fun a hF => ?_)
      refine vc_y hF rfl rfl (by decide) _ (y_ixSl rfl Tryd.underlying26 sz23_s10 (by exact congrArg (fun A => some (Value.slice A 257 cE)) hAE) rfl (h + 1) rfl (by omega) rfl) (fun a hF => ?_)
      refine vc_y hF rfl rfl (by decide) _ (y_ldRowC rfl (Hq.sub hA3.q (List.Subset.trans hG (subC (sub0)))) rfl hce ((h + 1) * 32) hele rfl (show List.take 32 (List.drop ((h + 1) * 32) (digs (emptyL width) 257)) = dc (subE width (h + 1) l) by rw [hse]; exact herd) rw23_s10) (fun a hF => ?_)
      refine vc_op rfl (fun K hK => hs_storeAll (new := dc (subE width (h + 1) l)) hF rfl rfl hA3 rfl rfl 0 rfl (by rw [hds]; rfl) (dc_one _) (by exact sz23_s10) (fun w4 hA5 => hK _ _ ?_))
      clear hK K
      replace hA5 : Hp w0 ([row b1 23 (dc (subE width (h + 1) l))] :: R) w4 := hA5
      refine vc_nil ?_
      refine hK4 _ _ ?_; clear  hK4 K4
      apply wp_ret
      simp only [Exit.then]
      refine vc_retR hF Tryd.results58 hA5.q rfl 0 rfl (by rw [hds]; exact rw23_s10) ?_
      have hA6 : Hp w0 (R) w4 := Hp.sel [[row b1 23 (dc (subE width (h + 1) l))]] R [] [0] hA5 rfl
      exact ⟨rfl, hA6⟩
    · have hpos : 0 < l.length := List.length_pos_iff.2 hl0
      refine wp_region_lit ?_
      refine vc_y hF rfl rfl (by decide) _ (y_move rfl rfl) (fun a hF => ?_)
      refine vc_y hF rfl rfl (by decide) _ (y_lenSl rfl Tryd.underlying55 rfl rfl) (fun a hF => ?_)
      refine vc_y hF rfl rfl (by decide) _ (y_cmp rfl rfl rfl rfl (eql_f (by omega))) (fun a hF => ?_)
      refine vc_nil ?_
      refine hK3 _ _ ?_; clear  hK3 K3
      refine vc_false hF rfl ?_
      apply wp_skip
      refine hK2 _ _ ?_; clear  hK2 K2
      apply wp_seq_k; intro K5 hK5
      apply wp_seq_k; intro K6 hK6
      refine wp_region_lit ?_
      refine vc_y hF rfl rfl (by decide) _ (y_move rfl rfl) (fun a hF => ?_)
      refine vc_y hF rfl rfl (by decide) _ (y_cmp rfl rfl rfl rfl (eql_f (by omega))) (fun a hF => ?_)
      refine vc_nil ?_
      refine hK6 _ _ ?_; clear  hK6 K6
      refine vc_false hF rfl ?_
      apply wp_skip
      refine hK5 _ _ ?_; clear  hK5 K5
      apply wp_seq_k; intro K7 hK7
      refine wp_region_lit ?_
      refine vc_y hF rfl rfl (by decide) _ (y_assign rfl rfl) (fun a hF => ?_)
      refine vc_nil ?_
      refine hK7 _ _ ?_; clear  hK7 K7
      apply wp_seq_k; intro K8 hK8
      apply wp_block
      refine vc_loop (G := Nat) (fun n a x => n ≤ l.length ∧ (∀ j i, j < n → l[j]? = some i → zeroBit (255 - h) i = true) ∧ Fr 64 [(9, .int .i64 (n : Int)), (0, .int .i64 width), (1, .slice A l.length c), (2, .int .i64 ((255 - h : Nat) : Int)), (3, .slice AE 257 cE), (8, .pointer (some ⟨b1, 0, none⟩))] a ∧ Hp w0 ([row b1 23 (dc (List.replicate 32 0))] :: R) x) (fun n => l.length - n) 0 (⟨Nat.zero_le _, (fun j i hj => absurd hj (Nat.not_lt_zero _)), hF.keep [9, 0, 1, 2, 3, 8] rfl, hA3⟩) ?_
      clear hF
      rintro n a w8 ⟨hn, hall, hF, hA7⟩
      by_cases hlt : n < l.length
      · obtain ⟨i, hi⟩ : ∃ i, l[n]? = some i := ⟨_, List.getElem?_eq_getElem hlt⟩
        have hiK := hI i (List.mem_of_getElem? hi)
        obtain ⟨hra, hrb⟩ := rs_at hI hi
        obtain ⟨b, q, hA2, hc⟩ := hL.ne (i := n * 65) (by omega)
        have hkc := keyBit_cases i.k (255 - h)
        by_cases hkb : keyBit i.k (255 - h) = 0
        · apply wp_seq_k; intro K9 hK9
          apply wp_seq_k; intro K10 hK10
          refine wp_region_lit ?_
          refine vc_y hF rfl rfl (by decide) _ (y_move rfl rfl) (fun a hF => ?_)
          refine vc_y hF rfl rfl (by decide) _ (y_move rfl rfl) (fun a hF => ?_)
          refine vc_y hF rfl rfl (by decide) _ (y_lenSl rfl Tryd.underlying55 rfl rfl) (fun a hF => ?_)
          refine vc_y hF rfl rfl (by decide) _ (y_cmp rfl rfl rfl rfl (lss_t (by omega))) (fun a hF => ?_)
          refine vc_y hF rfl rfl (by decide) _ (y_move rfl rfl) (fun a hF => ?_)
          refine vc_yg hF rfl rfl rfl rfl rfl (by decide) _ (y_move rfl rfl) (fun a hF => ?_)
          refine vc_yg hF rfl rfl rfl rfl rfl (by decide) _ (y_move rfl rfl) (fun a hF => ?_)
          refine vc_yg hF rfl rfl rfl rfl rfl (by decide) _ (y_ixSl rfl Tryd.underlying55 sz54_s10 (by exact congrArg (fun A => some (Value.slice A l.length c)) hA2) rfl n rfl hlt rfl) (fun a hF => ?_)
          refine vc_yg hF rfl rfl rfl rfl rfl (by decide) _ (y_field rfl Tryd.underlying54 rfl sz23_s10 (by decide) rfl (rfl : (⟨_, _ + _, none⟩ : Addr) = ⟨b, q + n * 65 + 0, none⟩)) (fun a hF => ?_)
          refine vc_yg hF rfl rfl rfl rfl rfl (by decide) _ (y_ldRowC rfl (Hq.sub hA7.q (List.Subset.trans hG (subC (sub0)))) rfl hc (n * 65) (by omega) rfl (rs_key hI hi) rw23_s10) (fun a hF => ?_)
          refine vc_yg hF rfl rfl rfl rfl rfl (by decide) _ (y_move rfl rfl) (fun a hF => ?_)
          refine vc_opg hF rfl rfl rfl rfl (fun K hK => ws_call hF rfl (by decide) cl52_s10 rfl rfl ?_)
          with_reducible refine (sp_rbit w0 _ ([row b1 23 (dc (List.replicate 32 0))] :: R) i.k (255 - h) hiK.k (by omega) hA7 ).mono ?_
          rintro e' w9 ⟨rfl, hA10⟩
          refine ⟨_, rfl, fun a hF => hK _ _ ?_⟩
          clear hK K
          replace hA10 : Hp w0 ([row b1 23 (dc (List.replicate 32 0))] :: R) w9 := hA10
          refine vc_yg hF rfl rfl rfl rfl rfl (by decide) _ (y_cmp rfl rfl rfl rfl (eql_t (by omega))) (fun a hF => ?_)
          refine vc_y hF rfl rfl (by decide) _ (y_pick rfl rfl rfl) (fun a hF => ?_)
          refine vc_nil ?_
          refine hK10 _ _ ?_; clear  hK10 K10
          refine vc_true hF rfl ?_
          apply wp_skip
          refine hK9 _ _ ?_; clear  hK9 K9
          apply wp_block
          refine wp_region_lit ?_
          refine vc_y hF rfl rfl (by decide) _ (y_move rfl rfl) (fun a hF => ?_)
          refine vc_y hF rfl rfl (by decide) _ (y_add rfl rfl rfl (IntWalk.i64_in _ (by omega))) (fun a hF => ?_)
          refine vc_y hF rfl rfl (by decide) _ (y_assign rfl rfl) (fun a hF => ?_)
          refine vc_nil ?_
          exact ⟨n + 1, by omega, by omega, (fun j i2 hj hj2 => by rcases Nat.lt_or_ge j n with h3 | h3; exact hall j i2 h3 hj2; obtain rfl : j = n := (by omega); rw [hi] at hj2; cases hj2; exact decide_eq_true hkb), hF.keep [9, 0, 1, 2, 3, 8] rfl, hA10⟩
        · apply wp_seq_k; intro K11 hK11
          apply wp_seq_k; intro K12 hK12
          refine wp_region_lit ?_
          refine vc_y hF rfl rfl (by decide) _ (y_move rfl rfl) (fun a hF => ?_)
          refine vc_y hF rfl rfl (by decide) _ (y_move rfl rfl) (fun a hF => ?_)
          refine vc_y hF rfl rfl (by decide) _ (y_lenSl rfl Tryd.underlying55 rfl rfl) (fun a hF => ?_)
          refine vc_y hF rfl rfl (by decide) _ (y_cmp rfl rfl rfl rfl (lss_t (by omega))) (fun a hF => ?_)
          refine vc_y hF rfl rfl (by decide) _ (y_move rfl rfl) (fun a hF => ?_)
          refine vc_yg hF rfl rfl rfl rfl rfl (by decide) _ (y_move rfl rfl) (fun a hF => ?_)
          refine vc_yg hF rfl rfl rfl rfl rfl (by decide) _ (y_move rfl rfl) (fun a hF => ?_)
          refine vc_yg hF rfl rfl rfl rfl rfl (by decide) _ (y_ixSl rfl Tryd.underlying55 sz54_s10 (by exact congrArg (fun A => some (Value.slice A l.length c)) hA2) rfl n rfl hlt rfl) (fun a hF => ?_)
          refine vc_yg hF rfl rfl rfl rfl rfl (by decide) _ (y_field rfl Tryd.underlying54 rfl sz23_s10 (by decide) rfl (rfl : (⟨_, _ + _, none⟩ : Addr) = ⟨b, q + n * 65 + 0, none⟩)) (fun a hF => ?_)
          refine vc_yg hF rfl rfl rfl rfl rfl (by decide) _ (y_ldRowC rfl (Hq.sub hA7.q (List.Subset.trans hG (subC (sub0)))) rfl hc (n * 65) (by omega) rfl (rs_key hI hi) rw23_s10) (fun a hF => ?_)
          refine vc_yg hF rfl rfl rfl rfl rfl (by decide) _ (y_move rfl rfl) (fun a hF => ?_)
          refine vc_opg hF rfl rfl rfl rfl (fun K hK => ws_call hF rfl (by decide) cl52_s10 rfl rfl ?_)
          with_reducible refine (sp_rbit w0 _ ([row b1 23 (dc (List.replicate 32 0))] :: R) i.k (255 - h) hiK.k (by omega) hA7 ).mono ?_
          rintro e' w11 ⟨rfl, hA12⟩
          refine ⟨_, rfl, fun a hF => hK _ _ ?_⟩
          clear hK K
          replace hA12 : Hp w0 ([row b1 23 (dc (List.replicate 32 0))] :: R) w11 := hA12
          refine vc_yg hF rfl rfl rfl rfl rfl (by decide) _ (y_cmp rfl rfl rfl rfl (eql_f (by omega))) (fun a hF => ?_)
          refine vc_y hF rfl rfl (by decide) _ (y_pick rfl rfl rfl) (fun a hF => ?_)
          refine vc_nil ?_
          refine hK12 _ _ ?_; clear  hK12 K12
          refine vc_false hF rfl ?_
          apply wp_exit
          refine hK8 _ _ ?_; clear hK11 K11 hK8 K8
          apply wp_seq_k; intro K13 hK13
          obtain ⟨htw, hdw⟩ := tw_split hn hall (fun i2 hj2 => by rw [hi] at hj2; cases hj2; exact decide_eq_false hkb)
          have hln : (l.take n).length = n := by rw [List.length_take]; omega
          have hld : (l.drop n).length = l.length - n := List.length_drop ..
          have hLt := rs_take n hI hL
          have hLd := rs_drop n c hI hn hlc hL
          have hIt : ∀ i ∈ l.take n, i.OK := fun i hi => hI i (List.mem_of_mem_take hi)
          have hId : ∀ i ∈ l.drop n, i.OK := fun i hi => hI i (List.mem_of_mem_drop hi)
          have hsu : subE width (h + 1) l = branchL width (subE width h (l.take n)) (subE width h (l.drop n)) := by rw [subE_go hl0, htw, hdw]
          refine wp_region_plan 18 [8,16,17,18] [0,1,2,3,4,5,6,7,9,10,11,12,13,14,15,8,16,17,18] (fun x => Hq w0 ([row b1 23 (dc (List.replicate 32 0))] :: R) x) (by kernel_rfl) (by kernel_rfl) (Hq.drew (Hp.qp [[row b1 23 (dc (List.replicate 32 0))]] R [0] hA12)) ?_
          have hA13 := Hl.drew hA12
          refine vp_y hF rfl rfl rfl rfl (by decide) _ (fun x hx => y_move rfl rfl) (fun a hF => ?_)
          refine vp_y hF rfl rfl rfl rfl (by decide) _ (fun x hx => y_move rfl rfl) (fun a hF => ?_)
          refine vp_y hF rfl rfl rfl rfl (by decide) _ (fun x hx => y_move rfl rfl) (fun a hF => ?_)
          refine vp_y hF rfl rfl rfl rfl (by decide) _ (fun x hx => y_move rfl rfl) (fun a hF => ?_)
          refine vp_y hF rfl rfl rfl rfl (by decide) _ (fun x hx => y_slice (v := .slice A (l.take n).length c) rfl Tryd.underlying55 sz54_s10 rfl (.none 0) (.some rfl rfl) (Nat.zero_le _) (by omega) (by rw [hln]; exact slice_to)) (fun a hF => ?_)
          refine vp_y hF rfl rfl rfl rfl (by decide) _ (fun x hx => y_move rfl rfl) (fun a hF => ?_)
          refine vp_y hF rfl rfl rfl rfl (by decide) _ (fun x hx => y_add rfl rfl rfl (show IntKind.i64.wrap (((255 - h : Nat) : Int) + 1) = ((256 - h : Nat) : Int) by rw [IntWalk.i64_in _ (by omega)]; omega)) (fun a hF => ?_)
          refine vp_y hF rfl rfl rfl rfl (by decide) _ (fun x hx => y_move rfl rfl) (fun a hF => ?_)
          refine vp_y hF rfl rfl rfl rfl (by decide) _ (fun x hx => y_move rfl rfl) (fun a hF => ?_)
          refine vp_y hF rfl rfl rfl rfl (by decide) _ (fun x hx => y_move rfl rfl) (fun a hF => ?_)
          refine vp_y hF rfl rfl rfl rfl (by decide) _ (fun x hx => y_move rfl rfl) (fun a hF => ?_)
          refine vp_y hF rfl rfl rfl rfl (by decide) _ (fun x hx => y_slice (v := .slice (sub A n c 65) (l.drop n).length (c - n)) rfl Tryd.underlying55 sz54_s10 rfl (.some rfl rfl) (.none _) hn hlc (by rw [hld])) (fun a hF => ?_)
          refine vp_y hF rfl rfl rfl rfl (by decide) _ (fun x hx => y_move rfl rfl) (fun a hF => ?_)
          refine vp_y hF rfl rfl rfl rfl (by decide) _ (fun x hx => y_add rfl rfl rfl (show IntKind.i64.wrap (((255 - h : Nat) : Int) + 1) = ((256 - h : Nat) : Int) by rw [IntWalk.i64_in _ (by omega)]; omega)) (fun a hF => ?_)
          refine vp_y hF rfl rfl rfl rfl (by decide) _ (fun x hx => y_move rfl rfl) (fun a hF => ?_)
          refine vp_l rfl rfl rfl (fun K hK => ws_call hF rfl (by decide) cl58_s10 rfl rfl ?_)
          with_reducible refine (ih (by omega) _ ([row b1 23 (dc (List.replicate 32 0))] :: R) (List.Subset.trans hG (subC (sub0))) A (l.take n) c (by rw [hln]; omega) (by rw [hln]; omega) hIt hLt hA13 ).mono ?_
          rintro e' w14 ⟨rfl, hA15⟩
          refine ⟨_, rfl, fun a hF => hK _ _ (fun _ => ?_) ?_⟩
          · exact Hp.qp [[row b1 23 (dc (List.replicate 32 0))]] R [0] hA15
          clear hK K
          replace hA15 : Hp w0 ([row b1 23 (dc (List.replicate 32 0))] :: R) w14 := hA15
          refine vp_l rfl rfl rfl (fun K hK => ws_call hF rfl (by decide) cl58_s10 rfl rfl ?_)
          with_reducible refine (ih (by omega) _ ([row b1 23 (dc (List.replicate 32 0))] :: R) (List.Subset.trans hG (subC (sub0))) (sub A n c 65) (l.drop n) (c - n) (by rw [hld]; omega) (by rw [hld]; omega) hId hLd hA15 ).mono ?_
          rintro e' w16 ⟨rfl, hA17⟩
          refine ⟨_, rfl, fun a hF => hK _ _ (fun _ => ?_) ?_⟩
          · exact Hp.qp [[row b1 23 (dc (List.replicate 32 0))]] R [0] hA17
          clear hK K
          replace hA17 : Hp w0 ([row b1 23 (dc (List.replicate 32 0))] :: R) w16 := hA17
          refine vp_l rfl rfl rfl (fun K hK => ws_call hF rfl (by decide) cl78_s10 rfl rfl ?_)
          with_reducible refine (tt_rbranch w0 _ ([row b1 23 (dc (List.replicate 32 0))] :: R) width (subE width h (l.take n)) (subE width h (l.drop n)) (subE_length _ _ _) (subE_length _ _ _) hA17 ).mono ?_
          rintro e' w18 ⟨rfl, hA19⟩
          refine ⟨_, rfl, fun a hF => hK _ _ (fun _ => ?_) ?_⟩
          · exact Hp.qp [[row b1 23 (dc (List.replicate 32 0))]] R [0] hA19
          clear hK K
          replace hA19 : Hp w0 ([row b1 23 (dc (List.replicate 32 0))] :: R) w18 := hA19
          rw [show ofL width 4 (subE width h (l.take n) ++ subE width h (l.drop n)) = subE width (h + 1) l from hsu.symm] at hF
          refine vp_l rfl rfl rfl (fun K hK => hs_storeAll (new := dc (subE width (h + 1) l)) hF rfl rfl hA19 rfl rfl 0 rfl (by rw [hds]; rfl) (dc_one _) (by exact sz23_s10) (fun w20 hA21 => hK _ _ (fun h => absurd h (by decide)) ?_))
          clear hK K
          replace hA21 : Hp w0 ([row b1 23 (dc (subE width (h + 1) l))] :: R) w20 := hA21
          refine plan_end ?_
          refine hK13 _ _ ?_; clear  hK13 K13
          apply wp_ret
          refine vc_retR hF Tryd.results58 hA21.q rfl 0 rfl (by rw [hds]; exact rw23_s10) ?_
          have hA22 : Hp w0 (R) w20 := Hp.sel [[row b1 23 (dc (subE width (h + 1) l))]] R [] [0] hA21 rfl
          exact ⟨rfl, hA22⟩
      · apply wp_seq_k; intro K14 hK14
        apply wp_seq_k; intro K15 hK15
        refine wp_region_lit ?_
        refine vc_y hF rfl rfl (by decide) _ (y_move rfl rfl) (fun a hF => ?_)
        refine vc_y hF rfl rfl (by decide) _ (y_move rfl rfl) (fun a hF => ?_)
        refine vc_y hF rfl rfl (by decide) _ (y_lenSl rfl Tryd.underlying55 rfl rfl) (fun a hF => ?_)
        refine vc_y hF rfl rfl (by decide) _ (y_cmp rfl rfl rfl rfl (lss_f (by omega))) (fun a hF => ?_)
        refine vc_y hF rfl rfl (by decide) _ (y_move rfl rfl) (fun a hF => ?_)
        refine vc_skip hF rfl rfl rfl rfl rfl rfl (by decide) (fun a hF => ?_)
        refine vc_skip hF rfl rfl rfl rfl rfl rfl (by decide) (fun a hF => ?_)
        refine vc_skip hF rfl rfl rfl rfl rfl rfl (by decide) (fun a hF => ?_)
        refine vc_skip hF rfl rfl rfl rfl rfl rfl (by decide) (fun a hF => ?_)
        refine vc_skip hF rfl rfl rfl rfl rfl rfl (by decide) (fun a hF => ?_)
        refine vc_skip hF rfl rfl rfl rfl rfl rfl (by decide) (fun a hF => ?_)
        refine vc_skip hF rfl rfl rfl rfl rfl rfl (by decide) (fun a hF => ?_)
        refine vc_skip hF rfl rfl rfl rfl rfl rfl (by decide) (fun a hF => ?_)
        refine vc_y hF rfl rfl (by decide) _ (y_pick rfl rfl rfl) (fun a hF => ?_)
        refine vc_nil ?_
        refine hK15 _ _ ?_; clear  hK15 K15
        refine vc_false hF rfl ?_
        apply wp_exit
        refine hK8 _ _ ?_; clear hK14 K14 hK8 K8
        apply wp_seq_k; intro K16 hK16
        obtain ⟨htw, hdw⟩ := tw_split hn hall (fun i2 hj2 => by rw [List.getElem?_eq_none (by omega)] at hj2; cases hj2)
        have hln : (l.take n).length = n := by rw [List.length_take]; omega
        have hld : (l.drop n).length = l.length - n := List.length_drop ..
        have hLt := rs_take n hI hL
        have hLd := rs_drop n c hI hn hlc hL
        have hIt : ∀ i ∈ l.take n, i.OK := fun i hi => hI i (List.mem_of_mem_take hi)
        have hId : ∀ i ∈ l.drop n, i.OK := fun i hi => hI i (List.mem_of_mem_drop hi)
        have hsu : subE width (h + 1) l = branchL width (subE width h (l.take n)) (subE width h (l.drop n)) := by rw [subE_go hl0, htw, hdw]
        refine wp_region_plan 18 [8,16,17,18] [0,1,2,3,4,5,6,7,9,10,11,12,13,14,15,8,16,17,18] (fun x => Hq w0 ([row b1 23 (dc (List.replicate 32 0))] :: R) x) (by kernel_rfl) (by kernel_rfl) (Hq.drew (Hp.qp [[row b1 23 (dc (List.replicate 32 0))]] R [0] hA7)) ?_
        have hA23 := Hl.drew hA7
        refine vp_y hF rfl rfl rfl rfl (by decide) _ (fun x hx => y_move rfl rfl) (fun a hF => ?_)
        refine vp_y hF rfl rfl rfl rfl (by decide) _ (fun x hx => y_move rfl rfl) (fun a hF => ?_)
        refine vp_y hF rfl rfl rfl rfl (by decide) _ (fun x hx => y_move rfl rfl) (fun a hF => ?_)
        refine vp_y hF rfl rfl rfl rfl (by decide) _ (fun x hx => y_move rfl rfl) (fun a hF => ?_)
        refine vp_y hF rfl rfl rfl rfl (by decide) _ (fun x hx => y_slice (v := .slice A (l.take n).length c) rfl Tryd.underlying55 sz54_s10 rfl (.none 0) (.some rfl rfl) (Nat.zero_le _) (by omega) (by rw [hln]; exact slice_to)) (fun a hF => ?_)
        refine vp_y hF rfl rfl rfl rfl (by decide) _ (fun x hx => y_move rfl rfl) (fun a hF => ?_)
        refine vp_y hF rfl rfl rfl rfl (by decide) _ (fun x hx => y_add rfl rfl rfl (show IntKind.i64.wrap (((255 - h : Nat) : Int) + 1) = ((256 - h : Nat) : Int) by rw [IntWalk.i64_in _ (by omega)]; omega)) (fun a hF => ?_)
        refine vp_y hF rfl rfl rfl rfl (by decide) _ (fun x hx => y_move rfl rfl) (fun a hF => ?_)
        refine vp_y hF rfl rfl rfl rfl (by decide) _ (fun x hx => y_move rfl rfl) (fun a hF => ?_)
        refine vp_y hF rfl rfl rfl rfl (by decide) _ (fun x hx => y_move rfl rfl) (fun a hF => ?_)
        refine vp_y hF rfl rfl rfl rfl (by decide) _ (fun x hx => y_move rfl rfl) (fun a hF => ?_)
        refine vp_y hF rfl rfl rfl rfl (by decide) _ (fun x hx => y_slice (v := .slice (sub A n c 65) (l.drop n).length (c - n)) rfl Tryd.underlying55 sz54_s10 rfl (.some rfl rfl) (.none _) hn hlc (by rw [hld])) (fun a hF => ?_)
        refine vp_y hF rfl rfl rfl rfl (by decide) _ (fun x hx => y_move rfl rfl) (fun a hF => ?_)
        refine vp_y hF rfl rfl rfl rfl (by decide) _ (fun x hx => y_add rfl rfl rfl (show IntKind.i64.wrap (((255 - h : Nat) : Int) + 1) = ((256 - h : Nat) : Int) by rw [IntWalk.i64_in _ (by omega)]; omega)) (fun a hF => ?_)
        refine vp_y hF rfl rfl rfl rfl (by decide) _ (fun x hx => y_move rfl rfl) (fun a hF => ?_)
        refine vp_l rfl rfl rfl (fun K hK => ws_call hF rfl (by decide) cl58_s10 rfl rfl ?_)
        with_reducible refine (ih (by omega) _ ([row b1 23 (dc (List.replicate 32 0))] :: R) (List.Subset.trans hG (subC (sub0))) A (l.take n) c (by rw [hln]; omega) (by rw [hln]; omega) hIt hLt hA23 ).mono ?_
        rintro e' w24 ⟨rfl, hA25⟩
        refine ⟨_, rfl, fun a hF => hK _ _ (fun _ => ?_) ?_⟩
        · exact Hp.qp [[row b1 23 (dc (List.replicate 32 0))]] R [0] hA25
        clear hK K
        replace hA25 : Hp w0 ([row b1 23 (dc (List.replicate 32 0))] :: R) w24 := hA25
        refine vp_l rfl rfl rfl (fun K hK => ws_call hF rfl (by decide) cl58_s10 rfl rfl ?_)
        with_reducible refine (ih (by omega) _ ([row b1 23 (dc (List.replicate 32 0))] :: R) (List.Subset.trans hG (subC (sub0))) (sub A n c 65) (l.drop n) (c - n) (by rw [hld]; omega) (by rw [hld]; omega) hId hLd hA25 ).mono ?_
        rintro e' w26 ⟨rfl, hA27⟩
        refine ⟨_, rfl, fun a hF => hK _ _ (fun _ => ?_) ?_⟩
        · exact Hp.qp [[row b1 23 (dc (List.replicate 32 0))]] R [0] hA27
        clear hK K
        replace hA27 : Hp w0 ([row b1 23 (dc (List.replicate 32 0))] :: R) w26 := hA27
        refine vp_l rfl rfl rfl (fun K hK => ws_call hF rfl (by decide) cl78_s10 rfl rfl ?_)
        with_reducible refine (tt_rbranch w0 _ ([row b1 23 (dc (List.replicate 32 0))] :: R) width (subE width h (l.take n)) (subE width h (l.drop n)) (subE_length _ _ _) (subE_length _ _ _) hA27 ).mono ?_
        rintro e' w28 ⟨rfl, hA29⟩
        refine ⟨_, rfl, fun a hF => hK _ _ (fun _ => ?_) ?_⟩
        · exact Hp.qp [[row b1 23 (dc (List.replicate 32 0))]] R [0] hA29
        clear hK K
        replace hA29 : Hp w0 ([row b1 23 (dc (List.replicate 32 0))] :: R) w28 := hA29
        rw [show ofL width 4 (subE width h (l.take n) ++ subE width h (l.drop n)) = subE width (h + 1) l from hsu.symm] at hF
        refine vp_l rfl rfl rfl (fun K hK => hs_storeAll (new := dc (subE width (h + 1) l)) hF rfl rfl hA29 rfl rfl 0 rfl (by rw [hds]; rfl) (dc_one _) (by exact sz23_s10) (fun w30 hA31 => hK _ _ (fun h => absurd h (by decide)) ?_))
        clear hK K
        replace hA31 : Hp w0 ([row b1 23 (dc (subE width (h + 1) l))] :: R) w30 := hA31
        refine plan_end ?_
        refine hK16 _ _ ?_; clear  hK16 K16
        apply wp_ret
        refine vc_retR hF Tryd.results58 hA31.q rfl 0 rfl (by rw [hds]; exact rw23_s10) ?_
        have hA32 : Hp w0 (R) w30 := Hp.sel [[row b1 23 (dc (subE width (h + 1) l))]] R [] [0] hA31 rfl
        exact ⟨rfl, hA32⟩

end Go.Proofs.YtpomngkcfbnjoaaDoor
