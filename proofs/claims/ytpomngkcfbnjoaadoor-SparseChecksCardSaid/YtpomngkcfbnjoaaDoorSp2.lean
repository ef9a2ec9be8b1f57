/- The rows of a sparse proof. -/
import Derived.Test.YtpomngkcfbnjoaaDoorSp1
import Derived.Test.YtpomngkcfbnjoaaDoorTt
namespace Go.Proofs.YtpomngkcfbnjoaaDoor
open Go.RowKit Go.Dk

theorem nr5_s2 : notRow Tryd.prog 5 = true := by kernel_rfl
theorem nr26_s2 : notRow Tryd.prog 26 = true := by kernel_rfl
theorem rw23_s2 : isRow Tryd.prog 23 32 = true := by kernel_rfl
theorem rw28_s2 : isRow Tryd.prog 28 67 = true := by kernel_rfl
theorem sz5_s2 : (Tryd.prog.info? 5).map (·.size) = some 1 := by kernel_rfl
theorem sz22_s2 : (Tryd.prog.info? 22).map (·.size) = some 32 := by kernel_rfl
theorem sz23_s2 : (Tryd.prog.info? 23).map (·.size) = some 32 := by kernel_rfl
theorem sz26_s2 : (Tryd.prog.info? 26).map (·.size) = some 1 := by kernel_rfl
theorem cl28_s2 : CallsTo Tryd.prog 28 := ⟨_, Tryd.func28, by kernel_rfl, by kernel_rfl⟩
theorem cl73_s2 : CallsTo Tryd.prog 73 := ⟨_, Tryd.func73, by kernel_rfl, by kernel_rfl⟩
theorem cl74_s2 : CallsTo Tryd.prog 74 := ⟨_, Tryd.func74, by kernel_rfl, by kernel_rfl⟩
theorem cl95_s2 : CallsTo Tryd.prog 95 := ⟨_, Tryd.func95, by kernel_rfl, by kernel_rfl⟩
theorem cl96_s2 : CallsTo Tryd.prog 96 := ⟨_, Tryd.func96, by kernel_rfl, by kernel_rfl⟩

theorem zr23_s2 : zeroIs Tryd.prog 23 (.agg (dc (List.replicate 32 0)).toArray) := by unfold zeroIs; kernel_rfl

theorem sp_sum (w0 w : World) (R G : List Seg) (hG : G ⊆ R) (A : Option Addr) (l : List UInt8) (c n : Nat) (hn : n = l.length) (hR : Rd w0 G A l) (hc : l.length ≤ c) (hl : l.length < 140737488353000) (hT : Tab w0) (hA : Hp w0 R w) : Calls Tryd.prog 29 #[.slice A n c] w fun e w' => e = .returned (.agg (dc (sha l)).toArray) ∧ Hp w0 R w' := by
  refine (digest_all w A l c n hn (by omega) ((hR.mono hG).bts hA.q) (by omega) (hT.hp hA)).mono ?_
  rintro e w' ⟨rfl, hw⟩
  exact ⟨rfl, hA.then0 hw⟩
theorem sp_rsum (w0 w : World) (R G : List Seg) (hG : G ⊆ R) (A : Option Addr) (l : List UInt8) (c n : Nat) (hn : n = l.length) (hR : Rd w0 G A l) (hl : l.length < 140737488353000) (hA : Hp w0 R w) : Calls Tryd.prog 51 #[.slice A n c] w fun e w' => e = .returned (.agg (dc (sha l)).toArray) ∧ Hp w0 R w' := by
  subst hn
  exact hc_refsum w0 w R A l c (hR.mono hG) hA (by omega)
theorem sp_cut (w0 w : World) (R : List Seg) (d : List UInt8) (m : Int) (hd : d.length = 32) (hA : Hp w0 R w) : Calls Tryd.prog 28 #[.agg (dc d).toArray, .int .i64 m] w fun e w' => e = .returned (.agg (dc (cutL d m)).toArray) ∧ Hp w0 R w' := by
  refine (cut_any d m w hd).mono ?_
  rintro e w' ⟨rfl, hw⟩
  exact ⟨rfl, hA.then0 hw⟩
theorem sp_rcut (w0 w : World) (R : List Seg) (d : List UInt8) (m : Int) (hd : d.length = 32) (hA : Hp w0 R w) : Calls Tryd.prog 50 #[.agg (dc d).toArray, .int .i64 m] w fun e w' => e = .returned (.agg (dc (cutL d m)).toArray) ∧ Hp w0 R w' := by
  refine (rcut_any d m w hd).mono ?_
  rintro e w' ⟨rfl, hw⟩
  exact ⟨rfl, hA.then0 hw⟩
theorem pcs_nil (w0 : World) (R : List Seg) : PcS w0 R none [] := ⟨Rc.nil, fun _ h => by cases h⟩
theorem pcs_two {w0 : World} {R : List Seg} {pa A B : Option Addr} {ca cb : Nat} {l m : List UInt8} (h : Rc w0 R pa [.slice A l.length ca, .slice B m.length cb]) (ha : l.length ≤ ca) (hb : m.length ≤ cb) (hl : Rd w0 R A l) (hm : Rd w0 R B m) : PcS w0 R pa [(A, ca, l), (B, cb, m)] := by
  refine ⟨h, fun p hp => ?_⟩
  simp only [List.mem_cons, List.not_mem_nil, or_false] at hp
  rcases hp with rfl | rfl
  · exact ⟨ha, hl⟩
  · exact ⟨hb, hm⟩
theorem pcs_three {w0 : World} {R : List Seg} {pa A B C : Option Addr} {ca cb cc : Nat} {l m k : List UInt8} (h : Rc w0 R pa [.slice A l.length ca, .slice B m.length cb, .slice C k.length cc]) (ha : l.length ≤ ca) (hb : m.length ≤ cb) (hc : k.length ≤ cc) (hl : Rd w0 R A l) (hm : Rd w0 R B m) (hk : Rd w0 R C k) : PcS w0 R pa [(A, ca, l), (B, cb, m), (C, cc, k)] := by
  refine ⟨h, fun p hp => ?_⟩
  simp only [List.mem_cons, List.not_mem_nil, or_false] at hp
  rcases hp with rfl | rfl | rfl
  · exact ⟨ha, hl⟩
  · exact ⟨hb, hm⟩
  · exact ⟨hc, hk⟩
/-- the digests that stand in a slice, one of them read -/
theorem digs_rd (f : Nat → List UInt8) (n i : Nat) (hf : ∀ i, i < n → (f i).length = 32) (hi : i < n) : ((digs f n).drop (i * 32)).take 32 = dc (f i) ∧ i * 32 + 32 ≤ (digs f n).length := by
  rw [digs_map]
  exact cel_at (sz := 32) (fun x hx => by obtain ⟨j, hj, rfl⟩ := List.mem_map.1 hx; rw [dc_length]; exact hf j (List.mem_range.1 hj)) (by rw [List.getElem?_map, List.getElem?_range hi]; rfl)
theorem digs_len (f : Nat → List UInt8) (n : Nat) (hf : ∀ i, i < n → (f i).length = 32) : (digs f n).length = n * 32 := by
  rw [digs_map, cel_len (sz := 32) (fun x hx => by obtain ⟨i, hi, rfl⟩ := List.mem_map.1 hx; rw [dc_length]; exact hf i (List.mem_range.1 hi)), List.length_map, List.length_range]
theorem digs_take (f : Nat → List UInt8) (n k : Nat) (hf : ∀ i, i < n + k → (f i).length = 32) : (digs f (n + k)).take (n * 32) = digs f n := by
  induction k with
  | zero => exact List.take_of_length_le (by rw [Nat.add_zero, digs_len f n (fun i hi => hf i (by omega))]; exact Nat.le_refl _)
  | succ k ih =>
    have h1 := digs_len f (n + k) (fun i hi => hf i (by omega))
    rw [← Nat.add_assoc, digs_succ, List.take_append_of_le_length (by rw [h1, Nat.add_mul]; omega)]
    exact ih (fun i hi => hf i (by omega))
theorem digs_congr {f g : Nat → List UInt8} {n : Nat} (h : ∀ i, i < n → f i = g i) : digs f n = digs g n := by
  rw [digs_map, digs_map]
  congr 1
  exact List.map_congr_left (fun i hi => h i (List.mem_range.1 hi))
theorem ss_rd {p : Prf} (hp : p.OK) {n : Nat} {d : List UInt8} (h : p.ss[n]? = some d) : ((digV p.ss).drop (n * 32)).take 32 = dc d ∧ n * 32 + 32 ≤ (digV p.ss).length :=
  cel_at (C := dc) (sz := 32) (fun x hx => by rw [dc_length]; exact hp.ss x hx) h
theorem Prf.err_form {p : Prf} {width : Int} (h : p.formed = false) : p.err width = 8 := by unfold Prf.err; rw [h]; rfl
theorem Prf.err_bad {p : Prf} {width : Int} (hf : p.formed = true) {h : Nat} (hb : p.badAt width h = true) (hh : h < 256) : p.err width = 170 := by unfold Prf.err; rw [hf, Prf.bad_stop hb hh]; rfl
theorem Prf.err_ok {p : Prf} {width : Int} (hf : p.formed = true) (hb : p.bad width 256 = false) : p.err width = 0 := by unfold Prf.err; rw [hf, hb]; rfl

set_option maxRecDepth 100000 in
set_option maxHeartbeats 2000000 in
theorem sp_empties (w0 w : World) (R : List Seg) (width : Int) (hT : Tab w0) (hA : Hp w0 R w) : Calls Tryd.prog 74 #[.int .i64 width] w fun e w' => ∃ v X, e = .returned v ∧ Buf 23 32 X v 257 (digs (emptyL width) 257) ∧ Hp w0 (X :: R) w' := by
  have hdl := emptyL_length width
  refine vc_enter Tryd.func74 rfl Tryd.ntmps74 (Nat.le_of_ble_eq_true rfl) (fun a hF => ?_)
  apply wp_seq_k; intro K1 hK1
  refine wp_region_lit ?_
  refine vc_y hF rfl rfl (by decide) _ (y_assign rfl rfl) (fun a hF => ?_)
  refine vc_nil ?_
  refine hK1 _ _ ?_; clear  hK1 K1
  apply wp_seq_k; intro K2 hK2
  refine wp_region_lit ?_
  refine vc_y hF rfl rfl (by decide) _ (y_move rfl rfl) (fun a hF => ?_)
  refine vc_op rfl (fun K hK => ws_call hF rfl (by decide) cl95_s2 rfl rfl ?_)
  with_reducible refine (tt_empty w0 _ R width 0 hT hA ).mono ?_
  rintro e' w1 ⟨rfl, hA2⟩
  refine ⟨_, rfl, fun a hF => hK _ _ ?_⟩
  clear hK K
  replace hA2 : Hp w0 (R) w1 := hA2
  rw [show (min (max (0 : Int) 0) 256).toNat = 0 from rfl] at hF
  refine vc_op rfl (fun K hK => hs_bs (qs := #[(0, .agg (dc (emptyL width 0)).toArray)]) (cells := (dc (emptyL width 0)).toArray) hF rfl (by decide) rfl hA2 rfl (t7_build (hdl 0)) (fun b3 w4 a hb3 hF hA5 => hK _ _ ?_))
  clear hK K
  replace hA5 : Hp w0 ([row b3 23 (dc (emptyL width 0))] :: R) w4 := hA5
  refine vc_y hF rfl rfl (by decide) _ (y_assign rfl rfl) (fun a hF => ?_)
  refine vc_nil ?_
  refine hK2 _ _ ?_; clear  hK2 K2
  apply wp_seq_k; intro K3 hK3
  apply wp_seq_k; intro K4 hK4
  refine wp_region_lit ?_
  refine vc_y hF rfl rfl (by decide) _ (y_move rfl rfl) (fun a hF => ?_)
  refine vc_nil ?_
  refine hK4 _ _ ?_; clear  hK4 K4
  apply wp_block
  have hE0 : Buf 23 32 [row b3 23 (dc (emptyL width 0))] (.slice (some ⟨b3, 0, none⟩) 1 1) 1 (digs (emptyL width) 1) := by rw [digs_one]; exact Buf.full (by rw [dc_length, hdl 0]) (by decide)
  refine vc_loop (G := Nat) (fun j a x => ∃ (ev : Value) (XE : Seg), j ≤ 256 ∧ Buf 23 32 XE ev (j + 1) (digs (emptyL width) (j + 1)) ∧ Fr 26 [(8, .int .i64 (j : Int)), (3, ev), (0, .int .i64 width)] a ∧ Hp w0 (XE :: R) x) (fun j => 256 - j) 0 (⟨_, _, Nat.zero_le _, hE0, hF.keep [8, 3, 0] rfl, hA5⟩) ?_
  clear hF
  rintro j a w7 ⟨ev, XE, hj, hE, hF, hA6⟩
  apply wp_seq_k; intro K5 hK5
  refine wp_region_lit ?_
  refine vc_y hF rfl rfl (by decide) _ (y_cmp rfl rfl rfl rfl rfl) (fun a hF => ?_)
  refine vc_nil ?_
  refine hK5 _ _ ?_; clear  hK5 K5
  apply wp_seq_k; intro K6 hK6
  by_cases hlt : j < 256
  · refine vc_trueB hF rfl (lss_t (by omega)) ?_
    have hFn := hF
    obtain ⟨AE, cE, rfl, hcE, hRE⟩ := hE.rc (w0 := w0) (R := [XE]) (List.mem_cons_self ..)
    obtain ⟨hrd, hle⟩ := digs_rd (emptyL width) (j + 1) j (fun i _ => hdl i) (Nat.lt_succ_self _)
    obtain ⟨b, q, rfl, hc⟩ := hRE.ne (i := j * 32) (by omega)
    have hF := hFn
    clear hFn
    apply wp_skip
    refine hK6 _ _ ?_; clear  hK6 K6
    apply wp_seq_k; intro K7 hK7
    apply wp_block
    apply wp_seq_k; intro K8 hK8
    refine wp_region_lit ?_
    refine vc_y hF rfl rfl (by decide) _ (y_move rfl rfl) (fun a hF => ?_)
    refine vc_y hF rfl rfl (by decide) _ (y_assign rfl rfl) (fun a hF => ?_)
    refine vc_nil ?_
    refine hK8 _ _ ?_; clear  hK8 K8
    refine wp_region_plan 12 [10,11,12,13] [0,1,2,3,4,5,6,7,8,9,10,11,12,13] (fun x => Hq w0 (XE :: R) x) (by kernel_rfl) (by kernel_rfl) (Hq.drew (Hp.qp [XE] R [0] hA6)) ?_
    have hA8 := Hl.drew hA6
    refine vp_y hF rfl rfl rfl rfl (by decide) _ (fun x hx => y_move rfl rfl) (fun a hF => ?_)
    refine vp_y hF rfl rfl rfl rfl (by decide) _ (fun x hx => y_move rfl rfl) (fun a hF => ?_)
    refine vp_y hF rfl rfl rfl rfl (by decide) _ (fun x hx => y_move rfl rfl) (fun a hF => ?_)
    refine vp_y hF rfl rfl rfl rfl (by decide) _ (fun x hx => y_move rfl rfl) (fun a hF => ?_)
    refine vp_y hF rfl rfl rfl rfl (by decide) _ (fun x hx => y_ixSl rfl Tryd.underlying26 t7_size rfl rfl j rfl (Nat.lt_succ_self _) rfl) (fun a hF => ?_)
    refine vp_y hF rfl rfl rfl rfl (by decide) _ (fun x hx => y_ldRowC rfl (Hq.sub hx (sub1 ((List.mem_cons_self ..)))) rfl hc (j * 32) hle rfl hrd rw23_s2) (fun a hF => ?_)
    refine vp_y hF rfl rfl rfl rfl (by decide) _ (fun x hx => y_move rfl rfl) (fun a hF => ?_)
    refine vp_y hF rfl rfl rfl rfl (by decide) _ (fun x hx => y_move rfl rfl) (fun a hF => ?_)
    refine vp_y hF rfl rfl rfl rfl (by decide) _ (fun x hx => y_ixSl rfl Tryd.underlying26 t7_size rfl rfl j rfl (Nat.lt_succ_self _) rfl) (fun a hF => ?_)
    refine vp_y hF rfl rfl rfl rfl (by decide) _ (fun x hx => y_ldRowC rfl (Hq.sub hx (sub1 ((List.mem_cons_self ..)))) rfl hc (j * 32) hle rfl hrd rw23_s2) (fun a hF => ?_)
    refine vp_l rfl rfl rfl (fun K hK => ws_call hF rfl (by decide) cl96_s2 rfl rfl ?_)
    with_reducible refine (tt_branch w0 _ (XE :: R) width (emptyL width j) (emptyL width j) (hdl j) (hdl j) hT hA8 ).mono ?_
    rintro e' w9 ⟨rfl, hA10⟩
    refine ⟨_, rfl, fun a hF => hK _ _ (fun _ => ?_) ?_⟩
    · exact Hp.qp [XE] R [0] hA10
    clear hK K
    replace hA10 : Hp w0 (XE :: R) w9 := hA10
    rw [show ofL width 4 (emptyL width j ++ emptyL width j) = emptyL width (j + 1) from rfl] at hF
    refine vp_l rfl rfl rfl (fun K hK => hs_bs (qs := #[(0, .agg (dc (emptyL width (j + 1))).toArray)]) (cells := (dc (emptyL width (j + 1))).toArray) hF rfl (by decide) rfl hA10 rfl (t7_build (hdl (j + 1))) (fun b11 w12 a hb11 hF hA13 => hK _ _ (fun _ => ?_) ?_))
    · exact Hp.qp [[row b11 23 (dc (emptyL width (j + 1)))], XE] R [1] hA13
    clear hK K
    replace hA13 : Hp w0 ([row b11 23 (dc (emptyL width (j + 1)))] :: XE :: R) w12 := hA13
    refine vp_l rfl rfl rfl (fun K hK => hs_append hF rfl (by decide) rfl hA13 1 rfl hE Tryd.underlying26 t7_elem rfl rfl (Rc.srcC (W := dc (emptyL width (j + 1))) (m := 1) (size := 32) (R := [row b11 23 (dc (emptyL width (j + 1)))] :: XE :: R) (Rc.ofRow (i := 0) (off := 0) rfl (by rw [List.drop_zero]; exact List.take_length ..)) hA13.q Tryd.underlying26 (by decide) (by rw [dc_length, hdl]) (dc_one _)) (by omega) (by decide) (fun ev2 XE2 w14 a hE2 hF hA15 => hK _ _ (fun h => absurd h (by decide)) ?_))
    clear hK K
    replace hA15 : Hp w0 ([row b11 23 (dc (emptyL width (j + 1)))] :: XE2 :: R) w14 := hA15
    refine vp_ly hF rfl rfl rfl rfl (by decide) _ (y_assign rfl rfl) (fun h => absurd h (by decide)) (fun a hF => ?_)
    refine plan_end ?_
    refine hK7 _ _ ?_; clear  hK7 K7
    refine wp_region_lit ?_
    refine vc_y hF rfl rfl (by decide) _ (y_add rfl rfl rfl (IntWalk.i64_in _ (by omega))) (fun a hF => ?_)
    refine vc_y hF rfl rfl (by decide) _ (y_move rfl rfl) (fun a hF => ?_)
    refine vc_nil ?_
    have hA16 : Hp w0 (XE2 :: R) w14 := Hp.sel [[row b11 23 (dc (emptyL width (j + 1)))], XE2] R [1] [0] hA15 rfl
    exact ⟨j + 1, by omega, ev2, XE2, by omega, (by rw [digs_succ]; exact hE2), hF.keep [8, 3, 0] rfl, hA16⟩
  · refine vc_falseB hF rfl (lss_f (by omega)) ?_
    obtain rfl : j = 256 := by omega
    apply wp_exit
    refine hK3 _ _ ?_; clear hK6 K6 hK3 K3
    apply wp_seq_k; intro K9 hK9
    refine wp_region_lit ?_
    refine vc_y hF rfl rfl (by decide) _ (y_move rfl rfl) (fun a hF => ?_)
    refine vc_y hF rfl rfl (by decide) _ (y_assign rfl rfl) (fun a hF => ?_)
    refine vc_nil ?_
    refine hK9 _ _ ?_; clear  hK9 K9
    apply wp_ret
    refine vc_ret1 hF Tryd.results74 rfl ?_
    exact ⟨ev, XE, rfl, hE, hA6⟩

theorem row_mid {B W Z : List Value} {k m z : Nat} (hW : W.length = m * z) (h : k * z + z ≤ m * z) : ((B ++ W ++ Z).drop (B.length + k * z)).take z = (W.drop (k * z)).take z := by
  rw [List.append_assoc, ← List.drop_drop, List.drop_left, List.drop_append_of_le_length (by omega), List.take_append_of_le_length (by rw [List.length_drop]; omega)]

set_option maxRecDepth 100000 in
set_option maxHeartbeats 2000000 in
theorem sp_rows (w0 w : World) (R G : List Seg) (hG : G ⊆ R) (p : Prf) (sA : Option Addr) (sC : Nat) (width : Int) (hp : p.OK) (hT : Tab w0) (hS : Rc w0 G sA (digV p.ss)) (hA : Hp w0 R w) : Calls Tryd.prog 43 #[.agg (p.cells (.slice sA p.ss.length sC)).toArray, .int .i64 width] w fun e w' => ∃ v X, e = .returned (.tuple #[v, .int .i64 ((p.err width : Nat) : Int)]) ∧ (p.err width = 0 → ∃ A c, v = .slice A 256 c ∧ 256 ≤ c ∧ Buf 23 32 X v 256 (digs (p.side width) 256)) ∧ Hp w0 (X :: R) w' := by
  refine vc_enter Tryd.func43 rfl Tryd.ntmps43 (Nat.le_of_ble_eq_true rfl) (fun a hF => ?_)
  apply wp_seq_k; intro K1 hK1
  refine wp_region_lit ?_
  refine vc_op rfl (fun K hK => hs_box (cs := p.cells (.slice sA p.ss.length sC)) hF rfl (by decide) rfl hA rfl (fun b1 w2 a hb1 hF hA3 => hK _ _ ?_))
  clear hK K
  replace hA3 : Hp w0 ([row b1 28 (p.cells (.slice sA p.ss.length sC))] :: R) w2 := hA3
  refine vc_y hF rfl rfl (by decide) _ (y_assign rfl rfl) (fun a hF => ?_)
  refine vc_y hF rfl rfl (by decide) _ (y_assign rfl rfl) (fun a hF => ?_)
  refine vc_nil ?_
  refine hK1 _ _ ?_; clear  hK1 K1
  apply wp_seq_k; intro K2 hK2
  apply wp_seq_k; intro K3 hK3
  refine wp_region_lit ?_
  refine vc_y hF rfl rfl (by decide) _ (y_ldRow rfl hA3.q rfl 0 rfl rw28_s2 (by rw [Prf.c_len hp]; decide) (Prf.c_all hp)) (fun a hF => ?_)
  refine vc_op rfl (fun K hK => ws_call hF rfl (by decide) cl73_s2 rfl rfl ?_)
  with_reducible refine (sp_formed w0 _ ([row b1 28 (p.cells (.slice sA p.ss.length sC))] :: R) p sA sC hp hA3 ).mono ?_
  rintro e' w4 ⟨rfl, hA5⟩
  refine ⟨_, rfl, fun a hF => hK _ _ ?_⟩
  clear hK K
  replace hA5 : Hp w0 ([row b1 28 (p.cells (.slice sA p.ss.length sC))] :: R) w4 := hA5
  refine vc_y hF rfl rfl (by decide) _ (y_not rfl rfl rfl) (fun a hF => ?_)
  refine vc_nil ?_
  refine hK3 _ _ ?_; clear  hK3 K3
  by_cases hf : p.formed = true
  · refine vc_falseB hF rfl (by rw [hf]; rfl) ?_
    apply wp_skip
    refine hK2 _ _ ?_; clear  hK2 K2
    apply wp_seq_k; intro K4 hK4
    refine wp_region_lit ?_
    refine vc_y hF rfl rfl (by decide) _ (y_move rfl rfl) (fun a hF => ?_)
    refine vc_op rfl (fun K hK => ws_call hF rfl (by decide) cl74_s2 rfl rfl ?_)
    with_reducible refine (sp_empties w0 _ ([row b1 28 (p.cells (.slice sA p.ss.length sC))] :: R) width hT hA5 ).mono ?_
    rintro e' w6 ⟨ev, XE, rfl, hE, hA7⟩
    refine ⟨_, rfl, fun a hF => hK _ _ ?_⟩
    clear hK K
    replace hA7 : Hp w0 (XE :: [row b1 28 (p.cells (.slice sA p.ss.length sC))] :: R) w6 := hA7
    obtain ⟨AE, cE, rfl, hcE, _⟩ := hE.cap
    refine vc_y hF rfl rfl (by decide) _ (y_slice rfl Tryd.underlying26 sz23_s2 rfl (.none 0) (.some rfl (rfl : (256 : Int) = ((256 : Nat) : Int))) (Nat.zero_le _) (Nat.le_trans (Nat.le_succ 256) hcE) slice_to) (fun a hF => ?_)
    refine vc_y hF rfl rfl (by decide) _ (y_assign rfl rfl) (fun a hF => ?_)
    refine vc_nil ?_
    have hE0 : Buf 23 32 XE (.slice AE 256 cE) 256 (digs (p.row width 0) 256) := by
      have h1 := hE.cut (n := 256) (by decide)
      rwa [digs_take (emptyL width) 256 1 (fun i _ => emptyL_length _ _), ← p.row0 width] at h1
    refine hK4 _ _ ?_; clear  hK4 K4
    apply wp_seq_k; intro K5 hK5
    refine wp_region_lit ?_
    refine vc_y hF rfl rfl (by decide) _ (y_assign rfl rfl) (fun a hF => ?_)
    refine vc_nil ?_
    refine hK5 _ _ ?_; clear  hK5 K5
    apply wp_seq_k; intro K6 hK6
    apply wp_seq_k; intro K7 hK7
    refine wp_region_lit ?_
    refine vc_y hF rfl rfl (by decide) _ (y_move rfl rfl) (fun a hF => ?_)
    refine vc_y hF rfl rfl (by decide) _ (y_lenSl rfl Tryd.underlying26 rfl rfl) (fun a hF => ?_)
    refine vc_y hF rfl rfl (by decide) _ (y_move rfl rfl) (fun a hF => ?_)
    refine vc_nil ?_
    refine hK7 _ _ ?_; clear  hK7 K7
    apply wp_block
    refine vc_loop (G := Nat) (fun h a x => ∃ (X : Seg), h ≤ 256 ∧ p.bad width h = false ∧ Buf 23 32 X (.slice AE 256 cE) 256 (digs (p.row width h) 256) ∧ Fr 57 [(18, .int .i64 (h : Int)), (7, .int .i64 ((onesN p.bs h : Nat) : Int)), (1, .int .i64 width), (2, .pointer (some ⟨b1, 0, none⟩)), (6, .slice AE 256 cE), (17, .int .i64 256)] a ∧ Hp w0 (X :: [row b1 28 (p.cells (.slice sA p.ss.length sC))] :: R) x) (fun h => 256 - h) 0 (⟨XE, Nat.zero_le _, rfl, hE0, hF.keep [18, 7, 1, 2, 6, 17] rfl, hA7⟩) ?_
    clear hF
    rintro h a w9 ⟨X, hh, hbad, hB, hF, hA8⟩
    apply wp_seq_k; intro K8 hK8
    refine wp_region_lit ?_
    refine vc_y hF rfl rfl (by decide) _ (y_cmp rfl rfl rfl rfl rfl) (fun a hF => ?_)
    refine vc_nil ?_
    refine hK8 _ _ ?_; clear  hK8 K8
    apply wp_seq_k; intro K9 hK9
    by_cases hlt : h < 256
    · refine vc_trueB hF rfl (lss_t (by omega)) ?_
      apply wp_skip
      refine hK9 _ _ ?_; clear  hK9 K9
      apply wp_seq_k; intro K10 hK10
      apply wp_block
      apply wp_seq_k; intro K11 hK11
      refine wp_region_lit ?_
      refine vc_y hF rfl rfl (by decide) _ (y_move rfl rfl) (fun a hF => ?_)
      refine vc_y hF rfl rfl (by decide) _ (y_assign rfl rfl) (fun a hF => ?_)
      refine vc_nil ?_
      refine hK11 _ _ ?_; clear  hK11 K11
      apply wp_seq_k; intro K12 hK12
      apply wp_seq_k; intro K13 hK13
      refine wp_region_lit ?_
      refine vc_y hF rfl rfl (by decide) _ (y_move rfl rfl) (fun a hF => ?_)
      refine vc_y hF rfl rfl (by decide) _ (y_quo rfl rfl rfl (by decide) (quo8 h hlt)) (fun a hF => ?_)
      refine vc_y hF rfl rfl (by decide) _ (y_field rfl Tryd.underlying28 rfl sz22_s2 (by decide) rfl (rfl : (⟨_, 0 + _, none⟩ : Addr) = ⟨_, 34, none⟩)) (fun a hF => ?_)
      refine vc_y hF rfl rfl (by decide) _ (y_ixArr rfl Tryd.underlying22 sz5_s2 rfl rfl (h / 8) rfl (by omega) (ad2 _ _ _) (rfl : (none : Option Nat) = none)) (fun a hF => ?_)
      refine vc_y hF rfl rfl (by decide) _ (y_ld rfl hA8.q rfl 1 rfl (Prf.c_bit hp (by omega)) nr5_s2) (fun a hF => ?_)
      refine vc_y hF rfl rfl (by decide) _ (y_move rfl rfl) (fun a hF => ?_)
      refine vc_y hF rfl rfl (by decide) _ (y_rem rfl rfl rfl (by decide) (rem8 h)) (fun a hF => ?_)
      refine vc_y hF rfl rfl (by decide) _ (y_shr rfl rfl rfl (by omega) (shr_byte _ (h % 8) (by omega))) (fun a hF => ?_)
      refine vc_y hF rfl rfl (by decide) _ (y_and rfl rfl rfl (bit_and p.bs h)) (fun a hF => ?_)
      refine vc_y hF rfl rfl (by decide) _ (y_cmp rfl rfl rfl rfl (eq0_bit p.bs h)) (fun a hF => ?_)
      refine vc_nil ?_
      refine hK13 _ _ ?_; clear  hK13 K13
      by_cases hb : bitOf p.bs h = true
      · refine vc_falseB hF rfl (by rw [hb]; rfl) ?_
        obtain ⟨hsl, hsat⟩ := Prf.dig_at hf hb hlt
        have hdl : (p.dig h).length = 32 := Prf.dig_length hp hf hb hlt
        have hddl : (dc (p.dig h)).length = 32 := by rw [dc_length, hdl]
        obtain ⟨hsr, hsr2⟩ := ss_rd hp hsat
        obtain ⟨b, q, hsA, hc⟩ := hS.ne (i := onesN p.bs h * 32) (by omega)
        have ho : onesN p.bs (h + 1) = onesN p.bs h + 1 := by show onesN p.bs h + bitN p.bs h = _; rw [bitN_of hb]
        have hol := onesN_le p.bs h
        have hrl : ∀ i, i < 256 → (p.row width h i).length = 32 := fun i _ => Prf.row_length hp hf width hh i
        obtain ⟨gE, BE, ZE, cE2, hvE, rfl, hWE, hiE, hsetE⟩ := hB.setRow (i := h) (V := dc (p.dig h)) hlt (by rw [dc_length, hdl])
        have hAE : AE = some ⟨gE, BE.length, none⟩ := by injection hvE
        obtain ⟨hrd, hle⟩ := digs_rd (p.row width h) 256 h hrl hlt
        rw [p.row_at width h] at hrd
        apply wp_skip
        refine hK12 _ _ ?_; clear  hK12 K12
        apply wp_seq_k; intro K14 hK14
        refine wp_region_lit ?_
        refine vc_y hF rfl rfl (by decide) _ (y_field rfl Tryd.underlying28 rfl sz26_s2 (by decide) rfl (rfl : (⟨_, 0 + _, none⟩ : Addr) = ⟨_, 66, none⟩)) (fun a hF => ?_)
        refine vc_y hF rfl rfl (by decide) _ (y_ld rfl hA8.q rfl 1 rfl (Prf.c_sums hp) nr26_s2) (fun a hF => ?_)
        refine vc_y hF rfl rfl (by decide) _ (y_move rfl rfl) (fun a hF => ?_)
        refine vc_y hF rfl rfl (by decide) _ (y_ixSl rfl Tryd.underlying26 sz23_s2 (by exact congrArg (fun A => some (Value.slice A p.ss.length sC)) hsA) rfl (onesN p.bs h) rfl hsl rfl) (fun a hF => ?_)
        refine vc_y hF rfl rfl (by decide) _ (y_ldRowC rfl (Hq.sub hA8.q (List.Subset.trans hG (subC (subC (sub0))))) rfl hc (onesN p.bs h * 32) hsr2 rfl hsr rw23_s2) (fun a hF => ?_)
        refine vc_op rfl (fun K hK => hs_alloc hF rfl (by decide) rfl hA8 (zr23_s2) (fun b10 w11 a hb10 hF hA12 => hK _ _ ?_))
        clear hK K
        replace hA12 : Hp w0 ([row b10 23 (dc (List.replicate 32 0))] :: [row gE 23 (BE ++ digs (p.row width h) 256 ++ ZE)] :: [row b1 28 (p.cells (.slice sA p.ss.length sC))] :: R) w11 := hA12
        refine vc_op rfl (fun K hK => hs_storeAll (new := dc (p.dig h)) hF rfl rfl hA12 rfl rfl 0 rfl (by rw [dc_length, hdl]; rfl) (dc_one _) sz23_s2 (fun w13 hA14 => hK _ _ ?_))
        clear hK K
        replace hA14 : Hp w0 ([row b10 23 (dc (p.dig h))] :: [row gE 23 (BE ++ digs (p.row width h) 256 ++ ZE)] :: [row b1 28 (p.cells (.slice sA p.ss.length sC))] :: R) w13 := hA14
        refine vc_nil ?_
        refine hK14 _ _ ?_; clear  hK14 K14
        apply wp_seq_k; intro K15 hK15
        refine wp_region_lit ?_
        refine vc_y hF rfl rfl (by decide) _ (y_move rfl rfl) (fun a hF => ?_)
        refine vc_y hF rfl rfl (by decide) _ (y_add rfl rfl rfl (show IntKind.i64.wrap (((onesN p.bs h : Nat) : Int) + 1) = ((onesN p.bs (h + 1) : Nat) : Int) by rw [IntWalk.i64_in _ (by omega), ho]; omega)) (fun a hF => ?_)
        refine vc_y hF rfl rfl (by decide) _ (y_assign rfl rfl) (fun a hF => ?_)
        refine vc_nil ?_
        refine hK15 _ _ ?_; clear  hK15 K15
        apply wp_seq_k; intro K16 hK16
        apply wp_seq_k; intro K17 hK17
        by_cases heq : p.dig h = emptyL width h
        · refine wp_region_plan 12 [9,12] [0,1,2,3,4,5,6,7,8,10,9,11,12] (fun x => Hq w0 ([row b10 23 (dc (p.dig h))] :: [row gE 23 (BE ++ digs (p.row width h) 256 ++ ZE)] :: [row b1 28 (p.cells (.slice sA p.ss.length sC))] :: R) x) (by kernel_rfl) (by kernel_rfl) (Hq.drew (Hp.qp [[row b10 23 (dc (p.dig h))], [row gE 23 (BE ++ digs (p.row width h) 256 ++ ZE)], [row b1 28 (p.cells (.slice sA p.ss.length sC))]] R [0, 1, 2] hA14)) ?_
          have hA15 := Hl.drew hA14
          refine vp_y hF rfl rfl rfl rfl (by decide) _ (fun x hx => y_ldRow (new := dc (p.dig h)) rfl hx rfl 0 rfl rw23_s2 (by rw [hddl]; exact Nat.le_refl _) (by rw [List.drop_zero]; exact List.take_of_length_le (by rw [hddl]; exact Nat.le_refl _))) (fun a hF => ?_)
          refine vp_y hF rfl rfl rfl rfl (by decide) _ (fun x hx => y_move rfl rfl) (fun a hF => ?_)
          refine vp_y hF rfl rfl rfl rfl (by decide) _ (fun x hx => y_move rfl rfl) (fun a hF => ?_)
          refine vp_y hF rfl rfl rfl rfl (by decide) _ (fun x hx => y_ixSl rfl Tryd.underlying26 sz23_s2 (by exact congrArg (fun A => some (Value.slice A 256 cE)) hAE) rfl h rfl hlt rfl) (fun a hF => ?_)
          refine vp_y hF rfl rfl rfl rfl (by decide) _ (fun x hx => y_ldRow (new := dc (emptyL width h)) rfl hx rfl 1 rfl rw23_s2 (by rw [List.length_append, List.length_append, hWE]; omega) (by rw [row_mid hWE hiE]; exact hrd)) (fun a hF => ?_)
          refine vp_y hF rfl rfl rfl rfl (by decide) _ (fun x hx => y_eqB rfl Tryd.underlying23 Tryd.underlying5 sz5_s2 (by kernel_rfl) rfl rfl hdl (emptyL_length _ _) (decide_eq_true heq)) (fun a hF => ?_)
          refine vp_y hF rfl rfl rfl rfl (by decide) _ (fun x hx => y_move rfl rfl) (fun a hF => ?_)
          refine vp_skip hF rfl rfl rfl rfl rfl rfl rfl rfl (by decide) (fun a hF => ?_)
          refine vp_skip hF rfl rfl rfl rfl rfl rfl rfl rfl (by decide) (fun a hF => ?_)
          refine vp_skip hF rfl rfl rfl rfl rfl rfl rfl rfl (by decide) (fun a hF => ?_)
          refine vp_skipl hF rfl rfl rfl rfl rfl rfl rfl rfl (by decide) (Hp.qp [[row b10 23 (dc (p.dig h))], [row gE 23 (BE ++ digs (p.row width h) 256 ++ ZE)], [row b1 28 (p.cells (.slice sA p.ss.length sC))]] R [0, 1, 2] hA15) (fun a hF => ?_)
          refine vp_skip hF rfl rfl rfl rfl rfl rfl rfl rfl (by decide) (fun a hF => ?_)
          refine vp_ly hF rfl rfl rfl rfl (by decide) _ (y_pick rfl rfl rfl) (fun h => absurd h (by decide)) (fun a hF => ?_)
          refine plan_end ?_
          refine hK17 _ _ ?_; clear  hK17 K17
          have hbt : p.badAt width h = true := by unfold Prf.badAt; rw [hb]; simp [heq]
          refine vc_true hF rfl ?_
          apply wp_seq_k; intro K18 hK18
          refine wp_region_lit ?_
          refine vc_y hF rfl rfl (by decide) _ (y_assign rfl rfl) (fun a hF => ?_)
          refine vc_y hF rfl rfl (by decide) _ (y_assign rfl rfl) (fun a hF => ?_)
          refine vc_nil ?_
          refine hK18 _ _ ?_; clear  hK18 K18
          apply wp_ret
          simp only [Exit.then, Exit.inBlock]
          refine vc_ret2 hF Tryd.results43 rfl rfl ?_
          have hA16 : Hp w0 (R) w13.drew := Hp.sel [[row b10 23 (dc (p.dig h))], [row gE 23 (BE ++ digs (p.row width h) 256 ++ ZE)], [row b1 28 (p.cells (.slice sA p.ss.length sC))]] R [] [0, 1, 2] hA15 rfl
          exact ⟨_, [], by rw [Prf.err_bad hf hbt hlt]; rfl, (fun h => by rw [Prf.err_bad hf hbt hlt] at h; cases h), Hp.nil hA16⟩
        · by_cases hcut : cutL (p.dig h) width = p.dig h
          · have hb1 : p.bad width (h + 1) = false := by show (p.bad width h || p.badAt width h) = false; rw [hbad]; unfold Prf.badAt; rw [hb, decide_eq_false heq, decide_eq_false (fun x => x hcut)]; rfl
            refine wp_region_plan 12 [9,12] [0,1,2,3,4,5,6,7,8,10,9,11,12] (fun x => Hq w0 ([row b10 23 (dc (p.dig h))] :: [row gE 23 (BE ++ digs (p.row width h) 256 ++ ZE)] :: [row b1 28 (p.cells (.slice sA p.ss.length sC))] :: R) x) (by kernel_rfl) (by kernel_rfl) (Hq.drew (Hp.qp [[row b10 23 (dc (p.dig h))], [row gE 23 (BE ++ digs (p.row width h) 256 ++ ZE)], [row b1 28 (p.cells (.slice sA p.ss.length sC))]] R [0, 1, 2] hA14)) ?_
            have hA17 := Hl.drew hA14
            refine vp_y hF rfl rfl rfl rfl (by decide) _ (fun x hx => y_ldRow (new := dc (p.dig h)) rfl hx rfl 0 rfl rw23_s2 (by rw [hddl]; exact Nat.le_refl _) (by rw [List.drop_zero]; exact List.take_of_length_le (by rw [hddl]; exact Nat.le_refl _))) (fun a hF => ?_)
            refine vp_y hF rfl rfl rfl rfl (by decide) _ (fun x hx => y_move rfl rfl) (fun a hF => ?_)
            refine vp_y hF rfl rfl rfl rfl (by decide) _ (fun x hx => y_move rfl rfl) (fun a hF => ?_)
            refine vp_y hF rfl rfl rfl rfl (by decide) _ (fun x hx => y_ixSl rfl Tryd.underlying26 sz23_s2 (by exact congrArg (fun A => some (Value.slice A 256 cE)) hAE) rfl h rfl hlt rfl) (fun a hF => ?_)
            refine vp_y hF rfl rfl rfl rfl (by decide) _ (fun x hx => y_ldRow (new := dc (emptyL width h)) rfl hx rfl 1 rfl rw23_s2 (by rw [List.length_append, List.length_append, hWE]; omega) (by rw [row_mid hWE hiE]; exact hrd)) (fun a hF => ?_)
            refine vp_y hF rfl rfl rfl rfl (by decide) _ (fun x hx => y_eqB rfl Tryd.underlying23 Tryd.underlying5 sz5_s2 (by kernel_rfl) rfl rfl hdl (emptyL_length _ _) (decide_eq_false heq)) (fun a hF => ?_)
            refine vp_y hF rfl rfl rfl rfl (by decide) _ (fun x hx => y_move rfl rfl) (fun a hF => ?_)
            refine vp_yg hF rfl rfl rfl rfl rfl rfl rfl (by decide) _ (fun x hx => y_ldRow (new := dc (p.dig h)) rfl hx rfl 0 rfl rw23_s2 (by rw [hddl]; exact Nat.le_refl _) (by rw [List.drop_zero]; exact List.take_of_length_le (by rw [hddl]; exact Nat.le_refl _))) (fun a hF => ?_)
            refine vp_yg hF rfl rfl rfl rfl rfl rfl rfl (by decide) _ (fun x hx => y_move rfl rfl) (fun a hF => ?_)
            refine vp_yg hF rfl rfl rfl rfl rfl rfl rfl (by decide) _ (fun x hx => y_ldRow (new := dc (p.dig h)) rfl hx rfl 0 rfl rw23_s2 (by rw [hddl]; exact Nat.le_refl _) (by rw [List.drop_zero]; exact List.take_of_length_le (by rw [hddl]; exact Nat.le_refl _))) (fun a hF => ?_)
            refine vp_lg hF rfl rfl rfl rfl rfl rfl (fun K hK => ws_call hF rfl (by decide) cl28_s2 rfl rfl ?_)
            with_reducible refine (sp_cut w0 _ ([row b10 23 (dc (p.dig h))] :: [row gE 23 (BE ++ digs (p.row width h) 256 ++ ZE)] :: [row b1 28 (p.cells (.slice sA p.ss.length sC))] :: R) (p.dig h) width hdl hA17 ).mono ?_
            rintro e' w18 ⟨rfl, hA19⟩
            refine ⟨_, rfl, fun a hF => hK _ _ (fun _ => ?_) ?_⟩
            · exact Hp.qp [[row b10 23 (dc (p.dig h))], [row gE 23 (BE ++ digs (p.row width h) 256 ++ ZE)], [row b1 28 (p.cells (.slice sA p.ss.length sC))]] R [0, 1, 2] hA19
            clear hK K
            replace hA19 : Hp w0 ([row b10 23 (dc (p.dig h))] :: [row gE 23 (BE ++ digs (p.row width h) 256 ++ ZE)] :: [row b1 28 (p.cells (.slice sA p.ss.length sC))] :: R) w18 := hA19
            refine vp_yg hF rfl rfl rfl rfl rfl rfl rfl (by decide) _ (fun x hx => y_neB rfl Tryd.underlying23 Tryd.underlying5 sz5_s2 (by kernel_rfl) rfl rfl (cutL_length _ _ hdl) hdl (show (!decide (cutL (p.dig h) width = p.dig h)) = false by simp [hcut])) (fun a hF => ?_)
            refine vp_ly hF rfl rfl rfl rfl (by decide) _ (y_pick rfl rfl rfl) (fun h => absurd h (by decide)) (fun a hF => ?_)
            refine plan_end ?_
            refine hK17 _ _ ?_; clear  hK17 K17
            refine vc_false hF rfl ?_
            apply wp_skip
            refine hK16 _ _ ?_; clear  hK16 K16
            refine wp_region_lit ?_
            refine vc_y hF rfl rfl (by decide) _ (y_move rfl rfl) (fun a hF => ?_)
            refine vc_y hF rfl rfl (by decide) _ (y_move rfl rfl) (fun a hF => ?_)
            refine vc_y hF rfl rfl (by decide) _ (y_ldRow (new := dc (p.dig h)) rfl hA19.q rfl 0 rfl rw23_s2 (by rw [hddl]; exact Nat.le_refl _) (by rw [List.drop_zero]; exact List.take_of_length_le (by rw [hddl]; exact Nat.le_refl _))) (fun a hF => ?_)
            refine vc_y hF rfl rfl (by decide) _ (y_ixSl rfl Tryd.underlying26 sz23_s2 (by exact congrArg (fun A => some (Value.slice A 256 cE)) hAE) rfl h rfl hlt rfl) (fun a hF => ?_)
            refine vc_op rfl (fun K hK => hs_storeRow (new := dc (p.dig h)) hF rfl rfl hA19 rfl rfl 1 rfl (by rw [List.length_append, List.length_append, hWE, dc_length, hdl]; omega) (dc_one _) (by rw [dc_length, hdl]; exact sz23_s2) (fun w20 hA21 => hK _ _ ?_))
            clear hK K
            replace hA21 : Hp w0 ([row b10 23 (dc (p.dig h))] :: [row gE 23 (splice (BE ++ digs (p.row width h) 256 ++ ZE) (BE.length + h * 32) (dc (p.dig h)))] :: [row b1 28 (p.cells (.slice sA p.ss.length sC))] :: R) w20 := hA21
            refine vc_nil ?_
            refine hK10 _ _ ?_; clear  hK10 K10
            refine wp_region_lit ?_
            refine vc_y hF rfl rfl (by decide) _ (y_add rfl rfl rfl (IntWalk.i64_in _ (by omega))) (fun a hF => ?_)
            refine vc_y hF rfl rfl (by decide) _ (y_move rfl rfl) (fun a hF => ?_)
            refine vc_nil ?_
            have hput := Prf.row_put hp hf width hb hlt 256 hlt []
            rw [List.append_nil, List.append_nil] at hput
            rw [hput] at hsetE
            have hA22 : Hp w0 ([row gE 23 (splice (BE ++ digs (p.row width h) 256 ++ ZE) (BE.length + h * 32) (dc (p.dig h)))] :: [row b1 28 (p.cells (.slice sA p.ss.length sC))] :: R) w20 := Hp.sel [[row b10 23 (dc (p.dig h))], [row gE 23 (splice (BE ++ digs (p.row width h) 256 ++ ZE) (BE.length + h * 32) (dc (p.dig h)))], [row b1 28 (p.cells (.slice sA p.ss.length sC))]] R [1, 2] [0] hA21 rfl
            exact ⟨h + 1, by omega, _, by omega, hb1, hsetE, hF.keep [18, 7, 1, 2, 6, 17] rfl, hA22⟩
          · refine wp_region_plan 12 [9,12] [0,1,2,3,4,5,6,7,8,10,9,11,12] (fun x => Hq w0 ([row b10 23 (dc (p.dig h))] :: [row gE 23 (BE ++ digs (p.row width h) 256 ++ ZE)] :: [row b1 28 (p.cells (.slice sA p.ss.length sC))] :: R) x) (by kernel_rfl) (by kernel_rfl) (Hq.drew (Hp.qp [[row b10 23 (dc (p.dig h))], [row gE 23 (BE ++ digs (p.row width h) 256 ++ ZE)], [row b1 28 (p.cells (.slice sA p.ss.length sC))]] R [0, 1, 2] hA14)) ?_
            have hA23 := Hl.drew hA14
            refine vp_y hF rfl rfl rfl rfl (by decide) _ (fun x hx => y_ldRow (new := dc (p.dig h)) rfl hx rfl 0 rfl rw23_s2 (by rw [hddl]; exact Nat.le_refl _) (by rw [List.drop_zero]; exact List.take_of_length_le (by rw [hddl]; exact Nat.le_refl _))) (fun a hF => ?_)
            refine vp_y hF rfl rfl rfl rfl (by decide) _ (fun x hx => y_move rfl rfl) (fun a hF => ?_)
            refine vp_y hF rfl rfl rfl rfl (by decide) _ (fun x hx => y_move rfl rfl) (fun a hF => ?_)
            refine vp_y hF rfl rfl rfl rfl (by decide) _ (fun x hx => y_ixSl rfl Tryd.underlying26 sz23_s2 (by exact congrArg (fun A => some (Value.slice A 256 cE)) hAE) rfl h rfl hlt rfl) (fun a hF => ?_)
            refine vp_y hF rfl rfl rfl rfl (by decide) _ (fun x hx => y_ldRow (new := dc (emptyL width h)) rfl hx rfl 1 rfl rw23_s2 (by rw [List.length_append, List.length_append, hWE]; omega) (by rw [row_mid hWE hiE]; exact hrd)) (fun a hF => ?_)
            refine vp_y hF rfl rfl rfl rfl (by decide) _ (fun x hx => y_eqB rfl Tryd.underlying23 Tryd.underlying5 sz5_s2 (by kernel_rfl) rfl rfl hdl (emptyL_length _ _) (decide_eq_false heq)) (fun a hF => ?_)
            refine vp_y hF rfl rfl rfl rfl (by decide) _ (fun x hx => y_move rfl rfl) (fun a hF => ?_)
            refine vp_yg hF rfl rfl rfl rfl rfl rfl rfl (by decide) _ (fun x hx => y_ldRow (new := dc (p.dig h)) rfl hx rfl 0 rfl rw23_s2 (by rw [hddl]; exact Nat.le_refl _) (by rw [List.drop_zero]; exact List.take_of_length_le (by rw [hddl]; exact Nat.le_refl _))) (fun a hF => ?_)
            refine vp_yg hF rfl rfl rfl rfl rfl rfl rfl (by decide) _ (fun x hx => y_move rfl rfl) (fun a hF => ?_)
            refine vp_yg hF rfl rfl rfl rfl rfl rfl rfl (by decide) _ (fun x hx => y_ldRow (new := dc (p.dig h)) rfl hx rfl 0 rfl rw23_s2 (by rw [hddl]; exact Nat.le_refl _) (by rw [List.drop_zero]; exact List.take_of_length_le (by rw [hddl]; exact Nat.le_refl _))) (fun a hF => ?_)
            refine vp_lg hF rfl rfl rfl rfl rfl rfl (fun K hK => ws_call hF rfl (by decide) cl28_s2 rfl rfl ?_)
            with_reducible refine (sp_cut w0 _ ([row b10 23 (dc (p.dig h))] :: [row gE 23 (BE ++ digs (p.row width h) 256 ++ ZE)] :: [row b1 28 (p.cells (.slice sA p.ss.length sC))] :: R) (p.dig h) width hdl hA23 ).mono ?_
            rintro e' w24 ⟨rfl, hA25⟩
            refine ⟨_, rfl, fun a hF => hK _ _ (fun _ => ?_) ?_⟩
            · exact Hp.qp [[row b10 23 (dc (p.dig h))], [row gE 23 (BE ++ digs (p.row width h) 256 ++ ZE)], [row b1 28 (p.cells (.slice sA p.ss.length sC))]] R [0, 1, 2] hA25
            clear hK K
            replace hA25 : Hp w0 ([row b10 23 (dc (p.dig h))] :: [row gE 23 (BE ++ digs (p.row width h) 256 ++ ZE)] :: [row b1 28 (p.cells (.slice sA p.ss.length sC))] :: R) w24 := hA25
            refine vp_yg hF rfl rfl rfl rfl rfl rfl rfl (by decide) _ (fun x hx => y_neB rfl Tryd.underlying23 Tryd.underlying5 sz5_s2 (by kernel_rfl) rfl rfl (cutL_length _ _ hdl) hdl (show (!decide (cutL (p.dig h) width = p.dig h)) = true by simp [hcut])) (fun a hF => ?_)
            refine vp_ly hF rfl rfl rfl rfl (by decide) _ (y_pick rfl rfl rfl) (fun h => absurd h (by decide)) (fun a hF => ?_)
            refine plan_end ?_
            refine hK17 _ _ ?_; clear  hK17 K17
            have hbt : p.badAt width h = true := by unfold Prf.badAt; rw [hb]; simp [hcut]
            refine vc_true hF rfl ?_
            apply wp_seq_k; intro K19 hK19
            refine wp_region_lit ?_
            refine vc_y hF rfl rfl (by decide) _ (y_assign rfl rfl) (fun a hF => ?_)
            refine vc_y hF rfl rfl (by decide) _ (y_assign rfl rfl) (fun a hF => ?_)
            refine vc_nil ?_
            refine hK19 _ _ ?_; clear  hK19 K19
            apply wp_ret
            simp only [Exit.then, Exit.inBlock]
            refine vc_ret2 hF Tryd.results43 rfl rfl ?_
            have hA26 : Hp w0 (R) w24 := Hp.sel [[row b10 23 (dc (p.dig h))], [row gE 23 (BE ++ digs (p.row width h) 256 ++ ZE)], [row b1 28 (p.cells (.slice sA p.ss.length sC))]] R [] [0, 1, 2] hA25 rfl
            exact ⟨_, [], by rw [Prf.err_bad hf hbt hlt]; rfl, (fun h => by rw [Prf.err_bad hf hbt hlt] at h; cases h), Hp.nil hA26⟩
      · have hb0 : bitOf p.bs h = false := by simpa using hb
        have hb1 : p.bad width (h + 1) = false := by show (p.bad width h || p.badAt width h) = false; rw [hbad]; unfold Prf.badAt; rw [hb0]; rfl
        have ho : onesN p.bs (h + 1) = onesN p.bs h := by show onesN p.bs h + bitN p.bs h = _; rw [bitN_no hb0]; rfl
        refine vc_trueB hF rfl (by rw [hb0]; rfl) ?_
        apply wp_exit
        refine hK10 _ _ ?_; clear hK12 K12 hK10 K10
        refine wp_region_lit ?_
        refine vc_y hF rfl rfl (by decide) _ (y_add rfl rfl rfl (IntWalk.i64_in _ (by omega))) (fun a hF => ?_)
        refine vc_y hF rfl rfl (by decide) _ (y_move rfl rfl) (fun a hF => ?_)
        refine vc_nil ?_
        rw [← ho] at hF
        exact ⟨h + 1, by omega, X, by omega, hb1, (by rw [Prf.row_no hb0]; exact hB), hF.keep [18, 7, 1, 2, 6, 17] rfl, hA8⟩
    · refine vc_falseB hF rfl (lss_f (by omega)) ?_
      obtain rfl : h = 256 := by omega
      apply wp_exit
      refine hK6 _ _ ?_; clear hK9 K9 hK6 K6
      apply wp_seq_k; intro K20 hK20
      refine wp_region_lit ?_
      refine vc_y hF rfl rfl (by decide) _ (y_move rfl rfl) (fun a hF => ?_)
      refine vc_y hF rfl rfl (by decide) _ (y_assign rfl rfl) (fun a hF => ?_)
      refine vc_y hF rfl rfl (by decide) _ (y_assign rfl rfl) (fun a hF => ?_)
      refine vc_nil ?_
      refine hK20 _ _ ?_; clear  hK20 K20
      apply wp_ret
      refine vc_ret2 hF Tryd.results43 rfl rfl ?_
      have hA27 : Hp w0 (X :: R) w9 := Hp.sel [X, [row b1 28 (p.cells (.slice sA p.ss.length sC))]] R [0] [1] hA8 rfl
      exact ⟨_, X, by rw [Prf.err_ok hf hbad]; rfl, (fun _ => ⟨AE, cE, rfl, by omega, by rw [← digs_congr (f := p.row width 256) (g := p.side width) (fun i hi => by unfold Prf.row; rw [if_pos hi])]; exact hB⟩), hA27⟩
  · have hfn : p.formed = false := by simpa using hf
    refine vc_trueB hF rfl (by rw [hfn]; rfl) ?_
    apply wp_seq_k; intro K21 hK21
    refine wp_region_lit ?_
    refine vc_y hF rfl rfl (by decide) _ (y_assign rfl rfl) (fun a hF => ?_)
    refine vc_y hF rfl rfl (by decide) _ (y_assign rfl rfl) (fun a hF => ?_)
    refine vc_nil ?_
    refine hK21 _ _ ?_; clear  hK21 K21
    apply wp_ret
    simp only [Exit.then]
    refine vc_ret2 hF Tryd.results43 rfl rfl ?_
    have hA28 : Hp w0 (R) w4 := Hp.sel [[row b1 28 (p.cells (.slice sA p.ss.length sC))]] R [] [0] hA5 rfl
    exact ⟨_, [], by rw [Prf.err_form hfn]; rfl, (fun h => by rw [Prf.err_form hfn] at h; cases h), Hp.nil hA28⟩
end Go.Proofs.YtpomngkcfbnjoaaDoor
