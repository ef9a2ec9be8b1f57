/- docketref8 walked. -/
import Derived.Test.YtpomngkcfbnjoaaDoorSpZ
import Derived.Test.YtpomngkcfbnjoaaDoorSp1
import Derived.Test.YtpomngkcfbnjoaaDoorRn
namespace Go.Proofs.YtpomngkcfbnjoaaDoor
open Go.RowKit Go.Dk

/-! ### keys held against one another -/
theorem nb_first : ∀ (i : Nat) {a b : List UInt8}, a.length = b.length → i < a.length → (∀ j, j < i → bAt a j = bAt b j) → bAt a i ≠ bAt b i → (nb a < nb b ↔ (bAt a i).toNat < (bAt b i).toNat)
  | _, [], _, _, h, _, _ => absurd h (Nat.not_lt_zero _)
  | _, _ :: _, [], h, _, _, _ => by cases h
  | 0, x :: a, y :: b, hl, _, _, hne => by
    have hl' : a.length = b.length := by simpa using hl
    have h1 := nb_lt a
    have h2 := nb_lt b
    rw [← hl'] at h2
    have hne' : x.toNat ≠ y.toNat := fun e => hne (UInt8.toNat_inj.1 e)
    show x.toNat * 2 ^ (8 * a.length) + nb a < y.toNat * 2 ^ (8 * b.length) + nb b ↔ x.toNat < y.toNat
    rw [← hl']
    generalize 2 ^ (8 * a.length) = P at h1 h2
    constructor
    · intro h
      rcases Nat.lt_or_ge x.toNat y.toNat with h3 | h3
      · exact h3
      · have h4 : (y.toNat + 1) * P ≤ x.toNat * P := Nat.mul_le_mul_right _ (by omega)
        rw [Nat.add_mul, Nat.one_mul] at h4
        omega
    · intro h
      have h4 : (x.toNat + 1) * P ≤ y.toNat * P := Nat.mul_le_mul_right _ h
      rw [Nat.add_mul, Nat.one_mul] at h4
      omega
  | i + 1, x :: a, y :: b, hl, hi, hall, hne => by
    have hl' : a.length = b.length := by simpa using hl
    have h0 : x = y := hall 0 (Nat.succ_pos _)
    subst h0
    have h1 := nb_first i hl' (by simpa using hi) (fun j hj => hall (j + 1) (by omega)) hne
    show x.toNat * 2 ^ (8 * a.length) + nb a < x.toNat * 2 ^ (8 * b.length) + nb b ↔ _
    rw [← hl']
    refine Iff.trans ?_ h1
    omega
theorem bytes_ext : ∀ {a b : List UInt8}, a.length = b.length → (∀ j, j < a.length → bAt a j = bAt b j) → a = b
  | [], [], _, _ => rfl
  | [], _ :: _, h, _ => by cases h
  | _ :: _, [], h, _ => by cases h
  | x :: a, y :: b, h, h2 => by
    have h0 : x = y := h2 0 (by simp)
    rw [h0, bytes_ext (by simpa using h) fun j hj => h2 (j + 1) (by simpa using hj)]
theorem nb_lss {a b : List UInt8} {i : Nat} (ha : a.length = 32) (hb : b.length = 32) (hi : i < 32) (h : ∀ j, j < i → bAt a j = bAt b j) (hne : bAt a i ≠ bAt b i) : cmpB .lss ((bAt a i).toNat : Int) ((bAt b i).toNat : Int) = decide (nb a < nb b) := by
  have h1 := nb_first i (ha.trans hb.symm) (by omega) h hne
  unfold cmpB
  apply decide_eq_decide.2
  rw [h1]
  omega
theorem cmp_ne (a b : Nat) : cmpB .neq (a : Int) (b : Int) = decide (a ≠ b) := by
  unfold cmpB
  by_cases h : a = b
  · subst h; simp
  · simp [h, show ¬ (a : Int) = (b : Int) by omega]
theorem cmp_eq (a b : Nat) : cmpB .eql (a : Int) (b : Int) = decide (a = b) := by
  unfold cmpB
  by_cases h : a = b
  · subst h; simp
  · simp [h, show ¬ (a : Int) = (b : Int) by omega]
theorem cel_snoc (l : List Itm) (x : Itm) : cel Itm.cells (l ++ [x]) = cel Itm.cells l ++ x.cells := by
  rw [cel_append]
  congr 1
  unfold cel
  simp
theorem snoc_len (l : List Itm) (x : Itm) : l.length + 1 = (l ++ [x]).length := (@List.length_append Itm l [x]).symm
theorem rt_eSlice (g : Nat) : Buf 23 32 [row g 23 []] (.slice (some ⟨g, 0, none⟩) 0 0) 0 [] := Buf.full rfl (Nat.zero_le _)
theorem getL_cons {i : Itm} {l : List Itm} {k : List UInt8} (h : ¬ i.k = k) : getL (i :: l) k = getL l k := List.find?_cons_of_neg (by simpa using h)
theorem getL_here {i : Itm} {l : List Itm} {k : List UInt8} (h : i.k = k) : getL (i :: l) k = some i := List.find?_cons_of_pos (by exact decide_eq_true h)
theorem nb_eq_iff {a b : List UInt8} (ha : a.length = 32) (hb : b.length = 32) : nb a = nb b ↔ a = b := ⟨nb_inj (ha.trans hb.symm), fun h => by rw [h]⟩
theorem parts_dec {a k : List UInt8} {J : Nat} (hJ : J < 256) (ha : agree a k J) (hn : keyBit a J ≠ keyBit k J) : partsN a k = J := partsN_eq (by omega) ha fun _ => hn
theorem offK_cons_yes {k : List UInt8} {h : Nat} {i : Itm} {l : List Itm} (hp : partsN i.k k = 255 - h) : offK k h (i :: l) = i :: offK k h l := List.filter_cons_of_pos (by exact decide_eq_true hp)
theorem offK_cons_no {k : List UInt8} {h : Nat} {i : Itm} {l : List Itm} (hp : ¬ partsN i.k k = 255 - h) : offK k h (i :: l) = offK k h l := List.filter_cons_of_neg (by simpa using hp)
theorem offK_nil (k : List UInt8) (h : Nat) : offK k h [] = [] := rfl
theorem offK_len (k : List UInt8) (h : Nat) (l : List Itm) : (offK k h l).length ≤ l.length := List.length_filter_le ..
theorem offK_ok {k : List UInt8} {h : Nat} {l : List Itm} (hl : ∀ i ∈ l, i.OK) : ∀ i ∈ offK k h l, i.OK := fun i hi => hl i (List.mem_filter.1 hi).1
theorem okC_dec (i : Itm) : okC i = decide (1 ≤ i.ct ∧ i.ct ≤ 1099511627776) := rfl
theorem nr5_s15 : notRow Tryd.prog 5 = true := by kernel_rfl
theorem nr26_s15 : notRow Tryd.prog 26 = true := by kernel_rfl
theorem rw23_s15 : isRow Tryd.prog 23 32 = true := by kernel_rfl
theorem rw25_s15 : isRow Tryd.prog 25 33 = true := by kernel_rfl
theorem rw28_s15 : isRow Tryd.prog 28 67 = true := by kernel_rfl
theorem rw45_s15 : isRow Tryd.prog 45 2 = true := by kernel_rfl
theorem rw54_s15 : isRow Tryd.prog 54 65 = true := by kernel_rfl
theorem sz4_s15 : (Tryd.prog.info? 4).map (·.size) = some 1 := by kernel_rfl
theorem sz5_s15 : (Tryd.prog.info? 5).map (·.size) = some 1 := by kernel_rfl
theorem sz22_s15 : (Tryd.prog.info? 22).map (·.size) = some 32 := by kernel_rfl
theorem sz23_s15 : (Tryd.prog.info? 23).map (·.size) = some 32 := by kernel_rfl
theorem sz25_s15 : (Tryd.prog.info? 25).map (·.size) = some 33 := by kernel_rfl
theorem sz26_s15 : (Tryd.prog.info? 26).map (·.size) = some 1 := by kernel_rfl
theorem sz28_s15 : (Tryd.prog.info? 28).map (·.size) = some 67 := by kernel_rfl
theorem sz45_s15 : (Tryd.prog.info? 45).map (·.size) = some 2 := by kernel_rfl
theorem sz54_s15 : (Tryd.prog.info? 54).map (·.size) = some 65 := by kernel_rfl
theorem cl30_s15 : CallsTo Tryd.prog 30 := ⟨_, Tryd.func30, by kernel_rfl, by kernel_rfl⟩
theorem cl32_s15 : CallsTo Tryd.prog 32 := ⟨_, Tryd.func32, by kernel_rfl, by kernel_rfl⟩
theorem cl46_s15 : CallsTo Tryd.prog 46 := ⟨_, Tryd.func46, by kernel_rfl, by kernel_rfl⟩
theorem cl47_s15 : CallsTo Tryd.prog 47 := ⟨_, Tryd.func47, by kernel_rfl, by kernel_rfl⟩
theorem cl52_s15 : CallsTo Tryd.prog 52 := ⟨_, Tryd.func52, by kernel_rfl, by kernel_rfl⟩
theorem cl58_s15 : CallsTo Tryd.prog 58 := ⟨_, Tryd.func58, by kernel_rfl, by kernel_rfl⟩
theorem cl69_s15 : CallsTo Tryd.prog 69 := ⟨_, Tryd.func69, by kernel_rfl, by kernel_rfl⟩
theorem cl71_s15 : CallsTo Tryd.prog 71 := ⟨_, Tryd.func71, by kernel_rfl, by kernel_rfl⟩
theorem cl72_s15 : CallsTo Tryd.prog 72 := ⟨_, Tryd.func72, by kernel_rfl, by kernel_rfl⟩
theorem cl92_s15 : CallsTo Tryd.prog 92 := ⟨_, Tryd.func92, by kernel_rfl, by kernel_rfl⟩
theorem cl105_s15 : CallsTo Tryd.prog 105 := ⟨_, Tryd.func105, by kernel_rfl, by kernel_rfl⟩

theorem zr23_s15 : zeroIs Tryd.prog 23 (.agg (dc (List.replicate 32 0)).toArray) := by unfold zeroIs; kernel_rfl
theorem zr25_s15 : zeroIs Tryd.prog 25 (.agg ([.int .i64 0, .int .u8 0, .int .u8 0, .int .u8 0, .int .u8 0, .int .u8 0, .int .u8 0, .int .u8 0, .int .u8 0, .int .u8 0, .int .u8 0, .int .u8 0, .int .u8 0, .int .u8 0, .int .u8 0, .int .u8 0, .int .u8 0, .int .u8 0, .int .u8 0, .int .u8 0, .int .u8 0, .int .u8 0, .int .u8 0, .int .u8 0, .int .u8 0, .int .u8 0, .int .u8 0, .int .u8 0, .int .u8 0, .int .u8 0, .int .u8 0, .int .u8 0, .int .u8 0] : List Value).toArray) := by unfold zeroIs; kernel_rfl
theorem zr45_s15 : zeroIs Tryd.prog 45 (.agg ([.pointer none, .slice none 0 0] : List Value).toArray) := by unfold zeroIs; kernel_rfl

set_option maxRecDepth 100000 in
set_option maxHeartbeats 2000000 in
theorem rr_less (w0 w : World) (R : List Seg) (kx ky : List UInt8) (ha : kx.length = 32) (hb : ky.length = 32) (hA : Hp w0 R w) : Calls Tryd.prog 105 #[.agg (dc kx).toArray, .agg (dc ky).toArray] w fun e w' => e = .returned (.bool (decide (nb kx < nb ky))) ∧ Hp w0 R w' := by
  have hda : (dc kx).length = 32 := by rw [dc_length, ha]
  have hdb : (dc ky).length = 32 := by rw [dc_length, hb]
  refine vc_enter Tryd.func105 rfl Tryd.ntmps105 (Nat.le_of_ble_eq_true rfl) (fun a hF => ?_)
  apply wp_seq_k; intro K1 hK1
  refine wp_region_lit ?_
  refine vc_op rfl (fun K hK => hs_box (cs := dc kx) hF rfl (by decide) rfl hA rfl (fun b1 w2 a hb1 hF hA3 => hK _ _ ?_))
  clear hK K
  replace hA3 : Hp w0 ([row b1 23 (dc kx)] :: R) w2 := hA3
  refine vc_op rfl (fun K hK => hs_box (cs := dc ky) hF rfl (by decide) rfl hA3 rfl (fun b4 w5 a hb4 hF hA6 => hK _ _ ?_))
  clear hK K
  replace hA6 : Hp w0 ([row b4 23 (dc ky)] :: [row b1 23 (dc kx)] :: R) w5 := hA6
  refine vc_y hF rfl rfl (by decide) _ (y_assign rfl rfl) (fun a hF => ?_)
  refine vc_nil ?_
  refine hK1 _ _ ?_; clear  hK1 K1
  apply wp_seq_k; intro K2 hK2
  apply wp_seq_k; intro K3 hK3
  refine wp_region_lit ?_
  refine vc_y hF rfl rfl (by decide) _ (y_assign rfl rfl) (fun a hF => ?_)
  refine vc_nil ?_
  refine hK3 _ _ ?_; clear  hK3 K3
  apply wp_block
  refine vc_loop (G := Nat) (fun i a x => i ≤ 32 ∧ (∀ j, j < i → bAt kx j = bAt ky j) ∧ Fr 24 [(5, .int .i64 (i : Int)), (2, .pointer (some ⟨b1, 0, none⟩)), (3, .pointer (some ⟨b4, 0, none⟩))] a ∧ Hp w0 ([row b4 23 (dc ky)] :: [row b1 23 (dc kx)] :: R) x) (fun i => 32 - i) 0 (⟨Nat.zero_le _, (fun j hj => absurd hj (Nat.not_lt_zero _)), hF.keep [5, 2, 3] rfl, hA6⟩) ?_
  clear hF
  rintro i a w8 ⟨hi, hall, hF, hA7⟩
  apply wp_seq_k; intro K4 hK4
  apply wp_seq_k; intro K5 hK5
  refine wp_region_lit ?_
  refine vc_y hF rfl rfl (by decide) _ (y_move rfl rfl) (fun a hF => ?_)
  refine vc_y hF rfl rfl (by decide) _ (y_cmp rfl rfl rfl rfl rfl) (fun a hF => ?_)
  refine vc_nil ?_
  refine hK5 _ _ ?_; clear  hK5 K5
  by_cases hlt : i < 32
  · refine vc_trueB hF rfl (lss_t (by omega)) ?_
    by_cases hne : bAt kx i ≠ bAt ky i
    · have hnn := u8_ne hne
      apply wp_skip
      refine hK4 _ _ ?_; clear  hK4 K4
      apply wp_seq_k; intro K6 hK6
      apply wp_block
      apply wp_seq_k; intro K7 hK7
      refine wp_region_plan 6 [6] [0,1,2,3,4,5,6] (fun x => Hq w0 ([row b4 23 (dc ky)] :: [row b1 23 (dc kx)] :: R) x) (by kernel_rfl) (by kernel_rfl) (Hq.drew (Hp.qp [[row b4 23 (dc ky)], [row b1 23 (dc kx)]] R [0, 1] hA7)) ?_
      have hA9 := Hl.drew hA7
      refine vp_y hF rfl rfl rfl rfl (by decide) _ (fun x hx => y_move rfl rfl) (fun a hF => ?_)
      refine vp_y hF rfl rfl rfl rfl (by decide) _ (fun x hx => y_ixArr rfl Tryd.underlying23 sz5_s15 rfl rfl i rfl hlt (ad1 _ _) (rfl : (none : Option Nat) = none)) (fun a hF => ?_)
      refine vp_y hF rfl rfl rfl rfl (by decide) _ (fun x hx => y_ld rfl hx rfl 1 rfl (dc_at (by rw [ha]; exact hlt)) nr5_s15) (fun a hF => ?_)
      refine vp_y hF rfl rfl rfl rfl (by decide) _ (fun x hx => y_move rfl rfl) (fun a hF => ?_)
      refine vp_y hF rfl rfl rfl rfl (by decide) _ (fun x hx => y_ixArr rfl Tryd.underlying23 sz5_s15 rfl rfl i rfl hlt (ad1 _ _) (rfl : (none : Option Nat) = none)) (fun a hF => ?_)
      refine vp_y hF rfl rfl rfl rfl (by decide) _ (fun x hx => y_ld rfl hx rfl 0 rfl (dc_at (by rw [hb]; exact hlt)) nr5_s15) (fun a hF => ?_)
      refine vp_ly hF rfl rfl rfl rfl (by decide) _ (y_cmp rfl rfl rfl rfl (neq_t (by omega))) (fun h => absurd h (by decide)) (fun a hF => ?_)
      refine plan_end ?_
      refine hK7 _ _ ?_; clear  hK7 K7
      refine vc_true hF rfl ?_
      apply wp_seq_k; intro K8 hK8
      refine wp_region_plan 7 [7] [0,1,2,3,4,5,6,7] (fun x => Hq w0 ([row b4 23 (dc ky)] :: [row b1 23 (dc kx)] :: R) x) (by kernel_rfl) (by kernel_rfl) (Hq.drew (Hp.qp [[row b4 23 (dc ky)], [row b1 23 (dc kx)]] R [0, 1] hA9)) ?_
      have hA10 := Hl.drew hA9
      refine vp_y hF rfl rfl rfl rfl (by decide) _ (fun x hx => y_move rfl rfl) (fun a hF => ?_)
      refine vp_y hF rfl rfl rfl rfl (by decide) _ (fun x hx => y_ixArr rfl Tryd.underlying23 sz5_s15 rfl rfl i rfl hlt (ad1 _ _) (rfl : (none : Option Nat) = none)) (fun a hF => ?_)
      refine vp_y hF rfl rfl rfl rfl (by decide) _ (fun x hx => y_ld rfl hx rfl 1 rfl (dc_at (by rw [ha]; exact hlt)) nr5_s15) (fun a hF => ?_)
      refine vp_y hF rfl rfl rfl rfl (by decide) _ (fun x hx => y_move rfl rfl) (fun a hF => ?_)
      refine vp_y hF rfl rfl rfl rfl (by decide) _ (fun x hx => y_ixArr rfl Tryd.underlying23 sz5_s15 rfl rfl i rfl hlt (ad1 _ _) (rfl : (none : Option Nat) = none)) (fun a hF => ?_)
      refine vp_y hF rfl rfl rfl rfl (by decide) _ (fun x hx => y_ld rfl hx rfl 0 rfl (dc_at (by rw [hb]; exact hlt)) nr5_s15) (fun a hF => ?_)
      refine vp_y hF rfl rfl rfl rfl (by decide) _ (fun x hx => y_cmp rfl rfl rfl rfl (nb_lss ha hb hlt hall hne)) (fun a hF => ?_)
      refine vp_ly hF rfl rfl rfl rfl (by decide) _ (y_assign rfl rfl) (fun h => absurd h (by decide)) (fun a hF => ?_)
      refine plan_end ?_
      refine hK8 _ _ ?_; clear  hK8 K8
      apply wp_ret
      simp only [Exit.then, Exit.inBlock]
      refine vc_ret1 hF Tryd.results105 rfl ?_
      have hA11 : Hp w0 (R) w8.drew.drew := Hp.sel [[row b4 23 (dc ky)], [row b1 23 (dc kx)]] R [] [0, 1] hA10 rfl
      exact ⟨rfl, hA11⟩
    · have hee : ((bAt kx i).toNat : Int) = ((bAt ky i).toNat : Int) := by rw [Decidable.not_not.1 hne]
      apply wp_skip
      refine hK4 _ _ ?_; clear  hK4 K4
      apply wp_seq_k; intro K9 hK9
      apply wp_block
      apply wp_seq_k; intro K10 hK10
      refine wp_region_plan 6 [6] [0,1,2,3,4,5,6] (fun x => Hq w0 ([row b4 23 (dc ky)] :: [row b1 23 (dc kx)] :: R) x) (by kernel_rfl) (by kernel_rfl) (Hq.drew (Hp.qp [[row b4 23 (dc ky)], [row b1 23 (dc kx)]] R [0, 1] hA7)) ?_
      have hA12 := Hl.drew hA7
      refine vp_y hF rfl rfl rfl rfl (by decide) _ (fun x hx => y_move rfl rfl) (fun a hF => ?_)
      refine vp_y hF rfl rfl rfl rfl (by decide) _ (fun x hx => y_ixArr rfl Tryd.underlying23 sz5_s15 rfl rfl i rfl hlt (ad1 _ _) (rfl : (none : Option Nat) = none)) (fun a hF => ?_)
      refine vp_y hF rfl rfl rfl rfl (by decide) _ (fun x hx => y_ld rfl hx rfl 1 rfl (dc_at (by rw [ha]; exact hlt)) nr5_s15) (fun a hF => ?_)
      refine vp_y hF rfl rfl rfl rfl (by decide) _ (fun x hx => y_move rfl rfl) (fun a hF => ?_)
      refine vp_y hF rfl rfl rfl rfl (by decide) _ (fun x hx => y_ixArr rfl Tryd.underlying23 sz5_s15 rfl rfl i rfl hlt (ad1 _ _) (rfl : (none : Option Nat) = none)) (fun a hF => ?_)
      refine vp_y hF rfl rfl rfl rfl (by decide) _ (fun x hx => y_ld rfl hx rfl 0 rfl (dc_at (by rw [hb]; exact hlt)) nr5_s15) (fun a hF => ?_)
      refine vp_ly hF rfl rfl rfl rfl (by decide) _ (y_cmp rfl rfl rfl rfl (neq_f (by omega))) (fun h => absurd h (by decide)) (fun a hF => ?_)
      refine plan_end ?_
      refine hK10 _ _ ?_; clear  hK10 K10
      refine vc_false hF rfl ?_
      apply wp_skip
      refine hK9 _ _ ?_; clear  hK9 K9
      refine wp_region_lit ?_
      refine vc_y hF rfl rfl (by decide) _ (y_move rfl rfl) (fun a hF => ?_)
      refine vc_y hF rfl rfl (by decide) _ (y_add rfl rfl rfl (IntWalk.i64_in _ (by omega))) (fun a hF => ?_)
      refine vc_y hF rfl rfl (by decide) _ (y_assign rfl rfl) (fun a hF => ?_)
      refine vc_nil ?_
      exact ⟨i + 1, by omega, by omega, (fun j hj => by rcases Nat.lt_or_ge j i with h3 | h3; exact hall j h3; obtain rfl : j = i := (by omega); exact Decidable.not_not.1 hne), hF.keep [5, 2, 3] rfl, hA12⟩
  · refine vc_falseB hF rfl (lss_f (by omega)) ?_
    have hee : kx = ky := bytes_ext (ha.trans hb.symm) (fun j hj => hall j (by omega))
    have hdf : decide (nb kx < nb ky) = false := by rw [hee]; exact decide_eq_false (Nat.lt_irrefl _)
    apply wp_exit
    refine hK2 _ _ ?_; clear hK4 K4 hK2 K2
    apply wp_seq_k; intro K11 hK11
    refine wp_region_lit ?_
    refine vc_y hF rfl rfl (by decide) _ (y_assign rfl (show some (Value.bool false) = some (.bool (decide (nb kx < nb ky))) by rw [hdf])) (fun a hF => ?_)
    refine vc_nil ?_
    refine hK11 _ _ ?_; clear  hK11 K11
    apply wp_ret
    refine vc_ret1 hF Tryd.results105 rfl ?_
    have hA13 : Hp w0 (R) w8 := Hp.sel [[row b4 23 (dc ky)], [row b1 23 (dc kx)]] R [] [0, 1] hA7 rfl
    exact ⟨rfl, hA13⟩

set_option maxRecDepth 100000 in
set_option maxHeartbeats 2000000 in
theorem rr_get (w0 w : World) (R G : List Seg) (hG : G ⊆ R) (A : Option Addr) (l : List Itm) (c : Nat) (hlc : l.length ≤ c) (hcm : l.length ≤ 100000) (hI : ∀ i ∈ l, i.OK) (hL : Rc w0 G A (cel Itm.cells l)) (k : List UInt8) (hk : k.length = 32) (hA : Hp w0 R w) : Calls Tryd.prog 71 #[.slice A l.length c, .agg (dc k).toArray] w fun e w' => e = .returned (.tuple #[.agg (.int .i64 (getCt l k) :: dc (getCh l k)).toArray, .bool (getL l k).isSome]) ∧ Hp w0 R w' := by
  have hdk : (dc k).length = 32 := by rw [dc_length, hk]
  refine vc_enter Tryd.func71 rfl Tryd.ntmps71 (Nat.le_of_ble_eq_true rfl) (fun a hF => ?_)
  apply wp_seq_k; intro K1 hK1
  refine wp_region_lit ?_
  refine vc_op rfl (fun K hK => hs_box (cs := dc k) hF rfl (by decide) rfl hA rfl (fun b1 w2 a hb1 hF hA3 => hK _ _ ?_))
  clear hK K
  replace hA3 : Hp w0 ([row b1 23 (dc k)] :: R) w2 := hA3
  refine vc_op rfl (fun K hK => hs_alloc hF rfl (by decide) rfl hA3 (zr25_s15) (fun b4 w5 a hb4 hF hA6 => hK _ _ ?_))
  clear hK K
  replace hA6 : Hp w0 ([row b4 25 [.int .i64 0, .int .u8 0, .int .u8 0, .int .u8 0, .int .u8 0, .int .u8 0, .int .u8 0, .int .u8 0, .int .u8 0, .int .u8 0, .int .u8 0, .int .u8 0, .int .u8 0, .int .u8 0, .int .u8 0, .int .u8 0, .int .u8 0, .int .u8 0, .int .u8 0, .int .u8 0, .int .u8 0, .int .u8 0, .int .u8 0, .int .u8 0, .int .u8 0, .int .u8 0, .int .u8 0, .int .u8 0, .int .u8 0, .int .u8 0, .int .u8 0, .int .u8 0, .int .u8 0]] :: [row b1 23 (dc k)] :: R) w5 := hA6
  refine vc_y hF rfl rfl (by decide) _ (y_assign rfl rfl) (fun a hF => ?_)
  refine vc_nil ?_
  refine hK1 _ _ ?_; clear  hK1 K1
  apply wp_seq_k; intro K2 hK2
  apply wp_seq_k; intro K3 hK3
  refine wp_region_lit ?_
  refine vc_y hF rfl rfl (by decide) _ (y_assign rfl rfl) (fun a hF => ?_)
  refine vc_nil ?_
  refine hK3 _ _ ?_; clear  hK3 K3
  apply wp_block
  refine vc_loop (G := Nat) (fun n a x => n ≤ l.length ∧ getL l k = getL (l.drop n) k ∧ Fr 26 [(6, .int .i64 (n : Int)), (0, .slice A l.length c), (3, .pointer (some ⟨b1, 0, none⟩)), (4, .pointer (some ⟨b4, 0, none⟩))] a ∧ Hp w0 ([row b4 25 [.int .i64 0, .int .u8 0, .int .u8 0, .int .u8 0, .int .u8 0, .int .u8 0, .int .u8 0, .int .u8 0, .int .u8 0, .int .u8 0, .int .u8 0, .int .u8 0, .int .u8 0, .int .u8 0, .int .u8 0, .int .u8 0, .int .u8 0, .int .u8 0, .int .u8 0, .int .u8 0, .int .u8 0, .int .u8 0, .int .u8 0, .int .u8 0, .int .u8 0, .int .u8 0, .int .u8 0, .int .u8 0, .int .u8 0, .int .u8 0, .int .u8 0, .int .u8 0, .int .u8 0]] :: [row b1 23 (dc k)] :: R) x) (fun n => l.length - n) 0 (⟨Nat.zero_le _, (by rw [List.drop_zero]), hF.keep [6, 0, 3, 4] rfl, hA6⟩) ?_
  clear hF
  rintro n a w8 ⟨hn, hgl, hF, hA7⟩
  apply wp_seq_k; intro K4 hK4
  apply wp_seq_k; intro K5 hK5
  refine wp_region_lit ?_
  refine vc_y hF rfl rfl (by decide) _ (y_move rfl rfl) (fun a hF => ?_)
  refine vc_y hF rfl rfl (by decide) _ (y_move rfl rfl) (fun a hF => ?_)
  refine vc_y hF rfl rfl (by decide) _ (y_lenSl rfl Tryd.underlying55 rfl rfl) (fun a hF => ?_)
  refine vc_y hF rfl rfl (by decide) _ (y_cmp rfl rfl rfl rfl rfl) (fun a hF => ?_)
  refine vc_nil ?_
  refine hK5 _ _ ?_; clear  hK5 K5
  by_cases hlt : n < l.length
  · refine vc_trueB hF rfl (lss_t (by omega)) ?_
    obtain ⟨i, hi⟩ : ∃ i, l[n]? = some i := ⟨_, List.getElem?_eq_getElem hlt⟩
    have hiK := hI i (List.mem_of_getElem? hi)
    have hrb := (rs_at hI hi).2
    obtain ⟨b, q, hAd, hc⟩ := hL.ne (i := n * 65) (by omega)
    have hdr : l.drop n = i :: l.drop (n + 1) := by rw [List.drop_eq_getElem_cons hlt]; congr 1; exact Option.some.inj ((List.getElem?_eq_getElem hlt).symm.trans hi)
    by_cases hik : i.k = k
    · have hfk : getL l k = some i := by rw [hgl, hdr]; exact getL_here hik
      have hct := getCt_some hfk
      have hch := getCh_some hfk
      have hss : (getL l k).isSome = true := by rw [hfk]; rfl
      have hel : (Value.int .i64 (getCt l k) :: dc (getCh l k)).length = 33 := by rw [hch, List.length_cons, dc_length, hiK.ch]
      apply wp_skip
      refine hK4 _ _ ?_; clear  hK4 K4
      apply wp_seq_k; intro K6 hK6
      apply wp_block
      apply wp_seq_k; intro K7 hK7
      refine wp_region_plan 6 [6] [0,1,2,3,4,5,6] (fun x => Hq w0 ([row b4 25 [.int .i64 0, .int .u8 0, .int .u8 0, .int .u8 0, .int .u8 0, .int .u8 0, .int .u8 0, .int .u8 0, .int .u8 0, .int .u8 0, .int .u8 0, .int .u8 0, .int .u8 0, .int .u8 0, .int .u8 0, .int .u8 0, .int .u8 0, .int .u8 0, .int .u8 0, .int .u8 0, .int .u8 0, .int .u8 0, .int .u8 0, .int .u8 0, .int .u8 0, .int .u8 0, .int .u8 0, .int .u8 0, .int .u8 0, .int .u8 0, .int .u8 0, .int .u8 0, .int .u8 0]] :: [row b1 23 (dc k)] :: R) x) (by kernel_rfl) (by kernel_rfl) (Hq.drew (Hp.qp [[row b4 25 [.int .i64 0, .int .u8 0, .int .u8 0, .int .u8 0, .int .u8 0, .int .u8 0, .int .u8 0, .int .u8 0, .int .u8 0, .int .u8 0, .int .u8 0, .int .u8 0, .int .u8 0, .int .u8 0, .int .u8 0, .int .u8 0, .int .u8 0, .int .u8 0, .int .u8 0, .int .u8 0, .int .u8 0, .int .u8 0, .int .u8 0, .int .u8 0, .int .u8 0, .int .u8 0, .int .u8 0, .int .u8 0, .int .u8 0, .int .u8 0, .int .u8 0, .int .u8 0, .int .u8 0]], [row b1 23 (dc k)]] R [0, 1] hA7)) ?_
      have hA9 := Hl.drew hA7
      refine vp_y hF rfl rfl rfl rfl (by decide) _ (fun x hx => y_move rfl rfl) (fun a hF => ?_)
      refine vp_y hF rfl rfl rfl rfl (by decide) _ (fun x hx => y_move rfl rfl) (fun a hF => ?_)
      refine vp_y hF rfl rfl rfl rfl (by decide) _ (fun x hx => y_ixSl rfl Tryd.underlying55 sz54_s15 (by exact congrArg (fun A => some (Value.slice A l.length c)) hAd) rfl n rfl hlt rfl) (fun a hF => ?_)
      refine vp_y hF rfl rfl rfl rfl (by decide) _ (fun x hx => y_field rfl Tryd.underlying54 rfl sz23_s15 (by decide) rfl (rfl : (⟨_, _ + _, none⟩ : Addr) = ⟨b, q + n * 65 + 0, none⟩)) (fun a hF => ?_)
      refine vp_y hF rfl rfl rfl rfl (by decide) _ (fun x hx => y_ldRowC rfl (Hq.sub hx (List.Subset.trans hG (subC (subC (sub0))))) rfl hc (n * 65) (by have := (rs_at hI hi).2; omega) rfl (rs_key hI hi) rw23_s15) (fun a hF => ?_)
      refine vp_y hF rfl rfl rfl rfl (by decide) _ (fun x hx => y_ldRow (new := dc k) rfl hx rfl 1 rfl rw23_s15 (by rw [hdk]; exact Nat.le_refl _) (by rw [List.drop_zero]; exact List.take_of_length_le (by rw [hdk]; exact Nat.le_refl _))) (fun a hF => ?_)
      refine vp_ly hF rfl rfl rfl rfl (by decide) _ (y_eqB rfl Tryd.underlying23 Tryd.underlying5 sz5_s15 (by kernel_rfl) rfl rfl hiK.k hk (decide_eq_true hik)) (fun h => absurd h (by decide)) (fun a hF => ?_)
      refine plan_end ?_
      refine hK7 _ _ ?_; clear  hK7 K7
      refine vc_true hF rfl ?_
      apply wp_seq_k; intro K8 hK8
      refine wp_region_lit ?_
      refine vc_y hF rfl rfl (by decide) _ (y_move rfl rfl) (fun a hF => ?_)
      refine vc_y hF rfl rfl (by decide) _ (y_move rfl rfl) (fun a hF => ?_)
      refine vc_y hF rfl rfl (by decide) _ (y_ixSl rfl Tryd.underlying55 sz54_s15 (by exact congrArg (fun A => some (Value.slice A l.length c)) hAd) rfl n rfl hlt rfl) (fun a hF => ?_)
      refine vc_y hF rfl rfl (by decide) _ (y_field rfl Tryd.underlying54 rfl sz25_s15 (by decide) rfl (rfl : (⟨_, _ + _, none⟩ : Addr) = ⟨b, q + n * 65 + 32, none⟩)) (fun a hF => ?_)
      refine vc_y hF rfl rfl (by decide) _ (y_ldRowC rfl (Hq.sub hA9.q (List.Subset.trans hG (subC (subC (sub0))))) rfl hc (n * 65 + 32) (by have := (rs_at hI hi).2; omega) (by omega) (show _ = .int .i64 (getCt l k) :: dc (getCh l k) by rw [hct, hch]; exact rs_ent hI hi) rw25_s15) (fun a hF => ?_)
      refine vc_op rfl (fun K hK => hs_storeAll (new := .int .i64 (getCt l k) :: dc (getCh l k)) hF rfl rfl hA9 rfl rfl 0 rfl (by rw [hel]; rfl) (ent_one _ _) sz25_s15 (fun w10 hA11 => hK _ _ ?_))
      clear hK K
      replace hA11 : Hp w0 ([row b4 25 (.int .i64 (getCt l k) :: dc (getCh l k))] :: [row b1 23 (dc k)] :: R) w10 := hA11
      refine vc_y hF rfl rfl (by decide) _ (y_assign rfl (show some (Value.bool true) = some (.bool (getL l k).isSome) by rw [hss])) (fun a hF => ?_)
      refine vc_nil ?_
      refine hK8 _ _ ?_; clear  hK8 K8
      apply wp_ret
      simp only [Exit.then, Exit.inBlock]
      refine vc_retCT hF Tryd.results71 hA11.q rfl rfl 0 rfl (by rw [hel]; exact rw25_s15) ?_
      have hA12 : Hp w0 (R) w10 := Hp.sel [[row b4 25 (.int .i64 (getCt l k) :: dc (getCh l k))], [row b1 23 (dc k)]] R [] [0, 1] hA11 rfl
      exact ⟨rfl, hA12⟩
    · apply wp_skip
      refine hK4 _ _ ?_; clear  hK4 K4
      apply wp_seq_k; intro K9 hK9
      apply wp_block
      apply wp_seq_k; intro K10 hK10
      refine wp_region_plan 6 [6] [0,1,2,3,4,5,6] (fun x => Hq w0 ([row b4 25 [.int .i64 0, .int .u8 0, .int .u8 0, .int .u8 0, .int .u8 0, .int .u8 0, .int .u8 0, .int .u8 0, .int .u8 0, .int .u8 0, .int .u8 0, .int .u8 0, .int .u8 0, .int .u8 0, .int .u8 0, .int .u8 0, .int .u8 0, .int .u8 0, .int .u8 0, .int .u8 0, .int .u8 0, .int .u8 0, .int .u8 0, .int .u8 0, .int .u8 0, .int .u8 0, .int .u8 0, .int .u8 0, .int .u8 0, .int .u8 0, .int .u8 0, .int .u8 0, .int .u8 0]] :: [row b1 23 (dc k)] :: R) x) (by kernel_rfl) (by kernel_rfl) (Hq.drew (Hp.qp [[row b4 25 [.int .i64 0, .int .u8 0, .int .u8 0, .int .u8 0, .int .u8 0, .int .u8 0, .int .u8 0, .int .u8 0, .int .u8 0, .int .u8 0, .int .u8 0, .int .u8 0, .int .u8 0, .int .u8 0, .int .u8 0, .int .u8 0, .int .u8 0, .int .u8 0, .int .u8 0, .int .u8 0, .int .u8 0, .int .u8 0, .int .u8 0, .int .u8 0, .int .u8 0, .int .u8 0, .int .u8 0, .int .u8 0, .int .u8 0, .int .u8 0, .int .u8 0, .int .u8 0, .int .u8 0]], [row b1 23 (dc k)]] R [0, 1] hA7)) ?_
      have hA13 := Hl.drew hA7
      refine vp_y hF rfl rfl rfl rfl (by decide) _ (fun x hx => y_move rfl rfl) (fun a hF => ?_)
      refine vp_y hF rfl rfl rfl rfl (by decide) _ (fun x hx => y_move rfl rfl) (fun a hF => ?_)
      refine vp_y hF rfl rfl rfl rfl (by decide) _ (fun x hx => y_ixSl rfl Tryd.underlying55 sz54_s15 (by exact congrArg (fun A => some (Value.slice A l.length c)) hAd) rfl n rfl hlt rfl) (fun a hF => ?_)
      refine vp_y hF rfl rfl rfl rfl (by decide) _ (fun x hx => y_field rfl Tryd.underlying54 rfl sz23_s15 (by decide) rfl (rfl : (⟨_, _ + _, none⟩ : Addr) = ⟨b, q + n * 65 + 0, none⟩)) (fun a hF => ?_)
      refine vp_y hF rfl rfl rfl rfl (by decide) _ (fun x hx => y_ldRowC rfl (Hq.sub hx (List.Subset.trans hG (subC (subC (sub0))))) rfl hc (n * 65) (by have := (rs_at hI hi).2; omega) rfl (rs_key hI hi) rw23_s15) (fun a hF => ?_)
      refine vp_y hF rfl rfl rfl rfl (by decide) _ (fun x hx => y_ldRow (new := dc k) rfl hx rfl 1 rfl rw23_s15 (by rw [hdk]; exact Nat.le_refl _) (by rw [List.drop_zero]; exact List.take_of_length_le (by rw [hdk]; exact Nat.le_refl _))) (fun a hF => ?_)
      refine vp_ly hF rfl rfl rfl rfl (by decide) _ (y_eqB rfl Tryd.underlying23 Tryd.underlying5 sz5_s15 (by kernel_rfl) rfl rfl hiK.k hk (decide_eq_false hik)) (fun h => absurd h (by decide)) (fun a hF => ?_)
      refine plan_end ?_
      refine hK10 _ _ ?_; clear  hK10 K10
      refine vc_false hF rfl ?_
      apply wp_skip
      refine hK9 _ _ ?_; clear  hK9 K9
      refine wp_region_lit ?_
      refine vc_y hF rfl rfl (by decide) _ (y_move rfl rfl) (fun a hF => ?_)
      refine vc_y hF rfl rfl (by decide) _ (y_add rfl rfl rfl (IntWalk.i64_in _ (by omega))) (fun a hF => ?_)
      refine vc_y hF rfl rfl (by decide) _ (y_assign rfl rfl) (fun a hF => ?_)
      refine vc_nil ?_
      exact ⟨n + 1, by omega, by omega, (by rw [hgl, hdr]; exact getL_cons hik), hF.keep [6, 0, 3, 4] rfl, hA13⟩
  · refine vc_falseB hF rfl (lss_f (by omega)) ?_
    obtain rfl : n = l.length := by omega
    have hfk : getL l k = none := by rw [hgl, List.drop_length]; rfl
    have hct := getCt_none hfk
    have hch := getCh_none hfk
    have hss : (getL l k).isSome = false := by rw [hfk]; rfl
    have hel : (Value.int .i64 (getCt l k) :: dc (getCh l k)).length = 33 := by rw [hch]; rfl
    apply wp_exit
    refine hK2 _ _ ?_; clear hK4 K4 hK2 K2
    apply wp_seq_k; intro K11 hK11
    refine wp_region_lit ?_
    refine vc_y hF rfl rfl (by decide) _ (y_build (v := .agg (.int .i64 (getCt l k) :: dc (getCh l k)).toArray) (qs := #[]) rfl rfl (by intro w; rw [hct, hch]; exact rt_ent0 w)) (fun a hF => ?_)
    refine vc_op rfl (fun K hK => hs_storeAll (new := .int .i64 (getCt l k) :: dc (getCh l k)) hF rfl rfl hA7 rfl rfl 0 rfl (by rw [hel]; rfl) (ent_one _ _) sz25_s15 (fun w14 hA15 => hK _ _ ?_))
    clear hK K
    replace hA15 : Hp w0 ([row b4 25 (.int .i64 (getCt l k) :: dc (getCh l k))] :: [row b1 23 (dc k)] :: R) w14 := hA15
    refine vc_y hF rfl rfl (by decide) _ (y_assign rfl (show some (Value.bool false) = some (.bool (getL l k).isSome) by rw [hss])) (fun a hF => ?_)
    refine vc_nil ?_
    refine hK11 _ _ ?_; clear  hK11 K11
    apply wp_ret
    refine vc_retCT hF Tryd.results71 hA15.q rfl rfl 0 rfl (by rw [hel]; exact rw25_s15) ?_
    have hA16 : Hp w0 (R) w14 := Hp.sel [[row b4 25 (.int .i64 (getCt l k) :: dc (getCh l k))], [row b1 23 (dc k)]] R [] [0, 1] hA15 rfl
    exact ⟨rfl, hA16⟩

set_option maxRecDepth 100000 in
set_option maxHeartbeats 2000000 in
theorem rr_put (w0 w : World) (R G : List Seg) (hG : G ⊆ R) (A : Option Addr) (l : List Itm) (c : Nat) (hlc : l.length ≤ c) (hcm : l.length ≤ 100000) (hI : ∀ i ∈ l, i.OK) (hL : Rc w0 G A (cel Itm.cells l)) (it : Itm) (hx : it.OK) (hA : Hp w0 R w) : Calls Tryd.prog 92 #[.slice A l.length c, .agg (dc it.k).toArray, .agg (.int .i64 it.ct :: dc it.ch).toArray] w fun e w' => ∃ v X, e = .returned (.tuple #[v, .int .i64 (if okC it = true then 0 else 8)]) ∧ Buf 54 65 X v (if okC it = true then insL it l else []).length (cel Itm.cells (if okC it = true then insL it l else [])) ∧ Hp w0 (X :: R) w' := by
  have hdk : (dc it.k).length = 32 := by rw [dc_length, hx.k]
  have hde : (Value.int .i64 it.ct :: dc it.ch).length = 33 := by rw [List.length_cons, dc_length, hx.ch]
  refine vc_enter Tryd.func92 rfl Tryd.ntmps92 (Nat.le_of_ble_eq_true rfl) (fun a hF => ?_)
  apply wp_seq_k; intro K1 hK1
  refine wp_region_lit ?_
  refine vc_op rfl (fun K hK => hs_box (cs := dc it.k) hF rfl (by decide) rfl hA rfl (fun b1 w2 a hb1 hF hA3 => hK _ _ ?_))
  clear hK K
  replace hA3 : Hp w0 ([row b1 23 (dc it.k)] :: R) w2 := hA3
  refine vc_op rfl (fun K hK => hs_box (cs := .int .i64 it.ct :: dc it.ch) hF rfl (by decide) rfl hA3 rfl (fun b4 w5 a hb4 hF hA6 => hK _ _ ?_))
  clear hK K
  replace hA6 : Hp w0 ([row b4 25 (.int .i64 it.ct :: dc it.ch)] :: [row b1 23 (dc it.k)] :: R) w5 := hA6
  refine vc_y hF rfl rfl (by decide) _ (y_assign rfl rfl) (fun a hF => ?_)
  refine vc_y hF rfl rfl (by decide) _ (y_assign rfl rfl) (fun a hF => ?_)
  refine vc_nil ?_
  refine hK1 _ _ ?_; clear  hK1 K1
  apply wp_seq_k; intro K2 hK2
  apply wp_seq_k; intro K3 hK3
  by_cases hct : 1 ≤ it.ct ∧ it.ct ≤ 1099511627776
  · have hok : okC it = true := decide_eq_true hct
    refine wp_region_lit ?_
    refine vc_y hF rfl rfl (by decide) _ (y_ldRow (new := .int .i64 it.ct :: dc it.ch) rfl hA6.q rfl 0 rfl rw25_s15 (by rw [hde]; exact Nat.le_refl _) (by rw [List.drop_zero]; exact List.take_of_length_le (by rw [hde]; exact Nat.le_refl _))) (fun a hF => ?_)
    refine vc_op rfl (fun K hK => ws_call hF rfl (by decide) cl46_s15 rfl rfl ?_)
    with_reducible refine (sp_right w0 _ ([row b4 25 (.int .i64 it.ct :: dc it.ch)] :: [row b1 23 (dc it.k)] :: R) it.ct it.ch hA6 ).mono ?_
    rintro e' w7 ⟨rfl, hA8⟩
    refine ⟨_, rfl, fun a hF => hK _ _ ?_⟩
    clear hK K
    replace hA8 : Hp w0 ([row b4 25 (.int .i64 it.ct :: dc it.ch)] :: [row b1 23 (dc it.k)] :: R) w7 := hA8
    rw [decide_eq_true hct] at hF
    refine vc_y hF rfl rfl (by decide) _ (y_not rfl rfl rfl) (fun a hF => ?_)
    refine vc_nil ?_
    refine hK3 _ _ ?_; clear  hK3 K3
    refine vc_false hF rfl ?_
    apply wp_skip
    refine hK2 _ _ ?_; clear  hK2 K2
    apply wp_seq_k; intro K4 hK4
    refine wp_region_lit ?_
    refine vc_y hF rfl rfl (by decide) _ (y_assign rfl rfl) (fun a hF => ?_)
    refine vc_nil ?_
    refine hK4 _ _ ?_; clear  hK4 K4
    apply wp_seq_k; intro K5 hK5
    refine wp_region_lit ?_
    refine vc_y hF rfl rfl (by decide) _ (y_assign rfl rfl) (fun a hF => ?_)
    refine vc_nil ?_
    refine hK5 _ _ ?_; clear  hK5 K5
    apply wp_seq_k; intro K6 hK6
    apply wp_seq_k; intro K7 hK7
    refine wp_region_lit ?_
    refine vc_y hF rfl rfl (by decide) _ (y_assign rfl rfl) (fun a hF => ?_)
    refine vc_nil ?_
    refine hK7 _ _ ?_; clear  hK7 K7
    apply wp_block
    have hA9 : Hp w0 ([] :: [row b4 25 (.int .i64 it.ct :: dc it.ch)] :: [row b1 23 (dc it.k)] :: R) w7 := hA8
    refine vc_loop (G := Nat × Bool × List Itm) (fun gh a x => ∃ (lv : Value) (XL : Seg), gh.1 ≤ l.length ∧ gh.2.2.length ≤ gh.1 + (if gh.2.1 = true then 1 else 0) ∧ (insL it l = gh.2.2 ++ (if gh.2.1 = true then l.drop gh.1 else insL it (l.drop gh.1))) ∧ Buf 54 65 XL lv gh.2.2.length (cel Itm.cells gh.2.2) ∧ Fr 61 [(10, .int .i64 (gh.1 : Int)), (9, .bool gh.2.1), (8, lv), (0, .slice A l.length c), (4, .pointer (some ⟨b1, 0, none⟩)), (5, .pointer (some ⟨b4, 0, none⟩))] a ∧ Hp w0 (XL :: [row b4 25 (.int .i64 it.ct :: dc it.ch)] :: [row b1 23 (dc it.k)] :: R) x) (fun gh => l.length - gh.1) (0, false, []) (⟨_, _, Nat.zero_le _, (Nat.zero_le _), (by show _ = [] ++ (if false = true then _ else insL it (l.drop 0)); rw [if_neg Bool.false_ne_true, List.drop_zero]; rfl), (Buf.nil 54 65), hF.keep [10, 9, 8, 0, 4, 5] rfl, hA9⟩) ?_
    clear hF
    rintro gh a w11 ⟨lv, XL, hn, hol, hin, hO, hF, hA10⟩
    obtain ⟨n, dn, out⟩ := gh
    simp only at hn hol hin hO hF
    apply wp_seq_k; intro K8 hK8
    apply wp_seq_k; intro K9 hK9
    refine wp_region_lit ?_
    refine vc_y hF rfl rfl (by decide) _ (y_move rfl rfl) (fun a hF => ?_)
    refine vc_y hF rfl rfl (by decide) _ (y_move rfl rfl) (fun a hF => ?_)
    refine vc_y hF rfl rfl (by decide) _ (y_lenSl rfl Tryd.underlying55 rfl rfl) (fun a hF => ?_)
    refine vc_y hF rfl rfl (by decide) _ (y_cmp rfl rfl rfl rfl rfl) (fun a hF => ?_)
    refine vc_nil ?_
    refine hK9 _ _ ?_; clear  hK9 K9
    by_cases hlt : n < l.length
    · refine vc_trueB hF rfl (lss_t (by omega)) ?_
      obtain ⟨i, hi⟩ : ∃ i, l[n]? = some i := ⟨_, List.getElem?_eq_getElem hlt⟩
      have hiK := hI i (List.mem_of_getElem? hi)
      have hrb := (rs_at hI hi).2
      obtain ⟨b, q, hAd, hc⟩ := hL.ne (i := n * 65) (by omega)
      have hdr : l.drop n = i :: l.drop (n + 1) := by rw [List.drop_eq_getElem_cons hlt]; congr 1; exact Option.some.inj ((List.getElem?_eq_getElem hlt).symm.trans hi)
      rw [hdr] at hin
      cases dn
      · rw [if_neg Bool.false_ne_true] at hin
        have hol : out.length ≤ n := hol
        by_cases hls : nb i.k < nb it.k
        · apply wp_skip
          refine hK8 _ _ ?_; clear  hK8 K8
          apply wp_seq_k; intro K10 hK10
          apply wp_block
          apply wp_seq_k; intro K11 hK11
          apply wp_seq_k; intro K12 hK12
          refine wp_region_plan 11 [9,11] [0,1,2,3,4,5,6,7,8,9,10,11] (fun x => Hq w0 (XL :: [row b4 25 (.int .i64 it.ct :: dc it.ch)] :: [row b1 23 (dc it.k)] :: R) x) (by kernel_rfl) (by kernel_rfl) (Hq.drew (Hp.qp [XL, [row b4 25 (.int .i64 it.ct :: dc it.ch)], [row b1 23 (dc it.k)]] R [0, 1, 2] hA10)) ?_
          have hA12 := Hl.drew hA10
          refine vp_y hF rfl rfl rfl rfl (by decide) _ (fun x hx => y_move rfl rfl) (fun a hF => ?_)
          refine vp_y hF rfl rfl rfl rfl (by decide) _ (fun x hx => y_not rfl rfl rfl) (fun a hF => ?_)
          refine vp_y hF rfl rfl rfl rfl (by decide) _ (fun x hx => y_move rfl rfl) (fun a hF => ?_)
          refine vp_yg hF rfl rfl rfl rfl rfl rfl rfl (by decide) _ (fun x hx => y_move rfl rfl) (fun a hF => ?_)
          refine vp_yg hF rfl rfl rfl rfl rfl rfl rfl (by decide) _ (fun x hx => y_move rfl rfl) (fun a hF => ?_)
          refine vp_yg hF rfl rfl rfl rfl rfl rfl rfl (by decide) _ (fun x hx => y_ixSl rfl Tryd.underlying55 sz54_s15 (by exact congrArg (fun A => some (Value.slice A l.length c)) hAd) rfl n rfl hlt rfl) (fun a hF => ?_)
          refine vp_yg hF rfl rfl rfl rfl rfl rfl rfl (by decide) _ (fun x hx => y_field rfl Tryd.underlying54 rfl sz23_s15 (by decide) rfl (rfl : (⟨_, _ + _, none⟩ : Addr) = ⟨b, q + n * 65 + 0, none⟩)) (fun a hF => ?_)
          refine vp_yg hF rfl rfl rfl rfl rfl rfl rfl (by decide) _ (fun x hx => y_ldRowC rfl (Hq.sub hx (List.Subset.trans hG (subC (subC (subC (sub0)))))) rfl hc (n * 65) (by have := (rs_at hI hi).2; omega) rfl (rs_key hI hi) rw23_s15) (fun a hF => ?_)
          refine vp_yg hF rfl rfl rfl rfl rfl rfl rfl (by decide) _ (fun x hx => y_ldRow (new := dc it.k) rfl hx rfl 2 rfl rw23_s15 (by rw [hdk]; exact Nat.le_refl _) (by rw [List.drop_zero]; exact List.take_of_length_le (by rw [hdk]; exact Nat.le_refl _))) (fun a hF => ?_)
          refine vp_lg hF rfl rfl rfl rfl rfl rfl (fun K hK => ws_call hF rfl (by decide) cl105_s15 rfl rfl ?_)
          with_reducible refine (rr_less w0 _ (XL :: [row b4 25 (.int .i64 it.ct :: dc it.ch)] :: [row b1 23 (dc it.k)] :: R) i.k it.k hiK.k hx.k hA12 ).mono ?_
          rintro e' w13 ⟨rfl, hA14⟩
          refine ⟨_, rfl, fun a hF => hK _ _ (fun _ => ?_) ?_⟩
          · exact Hp.qp [XL, [row b4 25 (.int .i64 it.ct :: dc it.ch)], [row b1 23 (dc it.k)]] R [0, 1, 2] hA14
          clear hK K
          replace hA14 : Hp w0 (XL :: [row b4 25 (.int .i64 it.ct :: dc it.ch)] :: [row b1 23 (dc it.k)] :: R) w13 := hA14
          rw [decide_eq_true hls] at hF
          refine vp_yg hF rfl rfl rfl rfl rfl rfl rfl (by decide) _ (fun x hx => y_not rfl rfl rfl) (fun a hF => ?_)
          refine vp_ly hF rfl rfl rfl rfl (by decide) _ (y_pick rfl rfl rfl) (fun h => absurd h (by decide)) (fun a hF => ?_)
          refine plan_end ?_
          refine hK12 _ _ ?_; clear  hK12 K12
          refine vc_false hF rfl ?_
          apply wp_skip
          refine hK11 _ _ ?_; clear  hK11 K11
          refine wp_region_lit ?_
          refine vc_y hF rfl rfl (by decide) _ (y_move rfl rfl) (fun a hF => ?_)
          refine vc_y hF rfl rfl (by decide) _ (y_move rfl rfl) (fun a hF => ?_)
          refine vc_y hF rfl rfl (by decide) _ (y_move rfl rfl) (fun a hF => ?_)
          refine vc_y hF rfl rfl (by decide) _ (y_ixSl rfl Tryd.underlying55 sz54_s15 (by exact congrArg (fun A => some (Value.slice A l.length c)) hAd) rfl n rfl hlt rfl) (fun a hF => ?_)
          refine vc_y hF rfl rfl (by decide) _ (y_ldRowC rfl (Hq.sub hA14.q (List.Subset.trans hG (subC (subC (subC (sub0)))))) rfl hc (n * 65) (rs_at hI hi).2 rfl (rs_at hI hi).1 rw54_s15) (fun a hF => ?_)
          refine vc_op rfl (fun K hK => hs_bs (qs := #[(0, .agg i.cells.toArray)]) (cells := i.cells.toArray) hF rfl (by decide) rfl hA14 rfl (by exact rs_slice hiK) (fun b15 w16 a hb15 hF hA17 => hK _ _ ?_))
          clear hK K
          replace hA17 : Hp w0 ([row b15 54 i.cells] :: XL :: [row b4 25 (.int .i64 it.ct :: dc it.ch)] :: [row b1 23 (dc it.k)] :: R) w16 := hA17
          refine vc_op rfl (fun K hK => hs_append hF rfl (by decide) rfl hA17 1 rfl hO Tryd.underlying55 rt_elemI rfl rfl (Rc.srcC (W := i.cells) (m := 1) (size := 65) (R := [row b15 54 i.cells] :: XL :: [row b4 25 (.int .i64 it.ct :: dc it.ch)] :: [row b1 23 (dc it.k)] :: R) (Rc.ofRow (i := 0) (off := 0) rfl (by rw [List.drop_zero]; exact List.take_length ..)) hA17.q Tryd.underlying55 (by decide) (by rw [Itm.len hiK]) (Itm.one i)) (by omega) (by decide) (fun lv2 XL2 w18 a hO2 hF hA19 => hK _ _ ?_))
          clear hK K
          replace hA19 : Hp w0 ([row b15 54 i.cells] :: XL2 :: [row b4 25 (.int .i64 it.ct :: dc it.ch)] :: [row b1 23 (dc it.k)] :: R) w18 := hA19
          rw [← cel_snoc, show (out).length + 1 = (out ++ [i]).length from snoc_len _ _] at hO2
          refine vc_y hF rfl rfl (by decide) _ (y_assign rfl rfl) (fun a hF => ?_)
          refine vc_nil ?_
          refine hK10 _ _ ?_; clear  hK10 K10
          refine wp_region_lit ?_
          refine vc_y hF rfl rfl (by decide) _ (y_move rfl rfl) (fun a hF => ?_)
          refine vc_y hF rfl rfl (by decide) _ (y_add rfl rfl rfl (IntWalk.i64_in _ (by omega))) (fun a hF => ?_)
          refine vc_y hF rfl rfl (by decide) _ (y_assign rfl rfl) (fun a hF => ?_)
          refine vc_nil ?_
          have hA20 : Hp w0 (XL2 :: [row b4 25 (.int .i64 it.ct :: dc it.ch)] :: [row b1 23 (dc it.k)] :: R) w18 := Hp.sel [[row b15 54 i.cells], XL2, [row b4 25 (.int .i64 it.ct :: dc it.ch)], [row b1 23 (dc it.k)]] R [1, 2, 3] [0] hA19 rfl
          exact ⟨(n + 1, false, out ++ [i]), (by show l.length - (n + 1) < l.length - n; omega), _, _, (by show n + 1 ≤ l.length; omega), (by show (out ++ [i]).length ≤ n + 1 + 0; simp only [List.length_append, List.length_cons, List.length_nil]; omega), (by rw [if_neg Bool.false_ne_true, hin]; show out ++ (if nb i.k < nb it.k then i :: insL it (l.drop (n + 1)) else _) = _; rw [if_pos hls]; simp), hO2, hF.keep [10, 9, 8, 0, 4, 5] rfl, hA20⟩
        · apply wp_skip
          refine hK8 _ _ ?_; clear  hK8 K8
          apply wp_seq_k; intro K13 hK13
          apply wp_block
          apply wp_seq_k; intro K14 hK14
          apply wp_seq_k; intro K15 hK15
          refine wp_region_plan 11 [9,11] [0,1,2,3,4,5,6,7,8,9,10,11] (fun x => Hq w0 (XL :: [row b4 25 (.int .i64 it.ct :: dc it.ch)] :: [row b1 23 (dc it.k)] :: R) x) (by kernel_rfl) (by kernel_rfl) (Hq.drew (Hp.qp [XL, [row b4 25 (.int .i64 it.ct :: dc it.ch)], [row b1 23 (dc it.k)]] R [0, 1, 2] hA10)) ?_
          have hA21 := Hl.drew hA10
          refine vp_y hF rfl rfl rfl rfl (by decide) _ (fun x hx => y_move rfl rfl) (fun a hF => ?_)
          refine vp_y hF rfl rfl rfl rfl (by decide) _ (fun x hx => y_not rfl rfl rfl) (fun a hF => ?_)
          refine vp_y hF rfl rfl rfl rfl (by decide) _ (fun x hx => y_move rfl rfl) (fun a hF => ?_)
          refine vp_yg hF rfl rfl rfl rfl rfl rfl rfl (by decide) _ (fun x hx => y_move rfl rfl) (fun a hF => ?_)
          refine vp_yg hF rfl rfl rfl rfl rfl rfl rfl (by decide) _ (fun x hx => y_move rfl rfl) (fun a hF => ?_)
          refine vp_yg hF rfl rfl rfl rfl rfl rfl rfl (by decide) _ (fun x hx => y_ixSl rfl Tryd.underlying55 sz54_s15 (by exact congrArg (fun A => some (Value.slice A l.length c)) hAd) rfl n rfl hlt rfl) (fun a hF => ?_)
          refine vp_yg hF rfl rfl rfl rfl rfl rfl rfl (by decide) _ (fun x hx => y_field rfl Tryd.underlying54 rfl sz23_s15 (by decide) rfl (rfl : (⟨_, _ + _, none⟩ : Addr) = ⟨b, q + n * 65 + 0, none⟩)) (fun a hF => ?_)
          refine vp_yg hF rfl rfl rfl rfl rfl rfl rfl (by decide) _ (fun x hx => y_ldRowC rfl (Hq.sub hx (List.Subset.trans hG (subC (subC (subC (sub0)))))) rfl hc (n * 65) (by have := (rs_at hI hi).2; omega) rfl (rs_key hI hi) rw23_s15) (fun a hF => ?_)
          refine vp_yg hF rfl rfl rfl rfl rfl rfl rfl (by decide) _ (fun x hx => y_ldRow (new := dc it.k) rfl hx rfl 2 rfl rw23_s15 (by rw [hdk]; exact Nat.le_refl _) (by rw [List.drop_zero]; exact List.take_of_length_le (by rw [hdk]; exact Nat.le_refl _))) (fun a hF => ?_)
          refine vp_lg hF rfl rfl rfl rfl rfl rfl (fun K hK => ws_call hF rfl (by decide) cl105_s15 rfl rfl ?_)
          with_reducible refine (rr_less w0 _ (XL :: [row b4 25 (.int .i64 it.ct :: dc it.ch)] :: [row b1 23 (dc it.k)] :: R) i.k it.k hiK.k hx.k hA21 ).mono ?_
          rintro e' w22 ⟨rfl, hA23⟩
          refine ⟨_, rfl, fun a hF => hK _ _ (fun _ => ?_) ?_⟩
          · exact Hp.qp [XL, [row b4 25 (.int .i64 it.ct :: dc it.ch)], [row b1 23 (dc it.k)]] R [0, 1, 2] hA23
          clear hK K
          replace hA23 : Hp w0 (XL :: [row b4 25 (.int .i64 it.ct :: dc it.ch)] :: [row b1 23 (dc it.k)] :: R) w22 := hA23
          rw [decide_eq_false hls] at hF
          refine vp_yg hF rfl rfl rfl rfl rfl rfl rfl (by decide) _ (fun x hx => y_not rfl rfl rfl) (fun a hF => ?_)
          refine vp_ly hF rfl rfl rfl rfl (by decide) _ (y_pick rfl rfl rfl) (fun h => absurd h (by decide)) (fun a hF => ?_)
          refine plan_end ?_
          refine hK15 _ _ ?_; clear  hK15 K15
          refine vc_true hF rfl ?_
          apply wp_seq_k; intro K16 hK16
          refine wp_region_lit ?_
          refine vc_y hF rfl rfl (by decide) _ (y_move rfl rfl) (fun a hF => ?_)
          refine vc_y hF rfl rfl (by decide) _ (y_ldRow (new := dc it.k) rfl hA23.q rfl 2 rfl rw23_s15 (by rw [hdk]; exact Nat.le_refl _) (by rw [List.drop_zero]; exact List.take_of_length_le (by rw [hdk]; exact Nat.le_refl _))) (fun a hF => ?_)
          refine vc_y hF rfl rfl (by decide) _ (y_ldRow (new := .int .i64 it.ct :: dc it.ch) rfl hA23.q rfl 1 rfl rw25_s15 (by rw [hde]; exact Nat.le_refl _) (by rw [List.drop_zero]; exact List.take_of_length_le (by rw [hde]; exact Nat.le_refl _))) (fun a hF => ?_)
          refine vc_y hF rfl rfl (by decide) _ (y_build (v := .agg it.cells.toArray) (qs := #[(0, .agg (dc it.k).toArray), (1, .agg (.int .i64 it.ct :: dc it.ch).toArray)]) rfl rfl (by exact rs_item hx)) (fun a hF => ?_)
          refine vc_op rfl (fun K hK => hs_bs (qs := #[(0, .agg it.cells.toArray)]) (cells := it.cells.toArray) hF rfl (by decide) rfl hA23 rfl (by exact rs_slice hx) (fun b24 w25 a hb24 hF hA26 => hK _ _ ?_))
          clear hK K
          replace hA26 : Hp w0 ([row b24 54 it.cells] :: XL :: [row b4 25 (.int .i64 it.ct :: dc it.ch)] :: [row b1 23 (dc it.k)] :: R) w25 := hA26
          refine vc_op rfl (fun K hK => hs_append hF rfl (by decide) rfl hA26 1 rfl hO Tryd.underlying55 rt_elemI rfl rfl (Rc.srcC (W := it.cells) (m := 1) (size := 65) (R := [row b24 54 it.cells] :: XL :: [row b4 25 (.int .i64 it.ct :: dc it.ch)] :: [row b1 23 (dc it.k)] :: R) (Rc.ofRow (i := 0) (off := 0) rfl (by rw [List.drop_zero]; exact List.take_length ..)) hA26.q Tryd.underlying55 (by decide) (by rw [Itm.len hx]) (Itm.one it)) (by omega) (by decide) (fun lv2 XL2 w27 a hO2 hF hA28 => hK _ _ ?_))
          clear hK K
          replace hA28 : Hp w0 ([row b24 54 it.cells] :: XL2 :: [row b4 25 (.int .i64 it.ct :: dc it.ch)] :: [row b1 23 (dc it.k)] :: R) w27 := hA28
          rw [← cel_snoc, show (out).length + 1 = (out ++ [it]).length from snoc_len _ _] at hO2
          refine vc_y hF rfl rfl (by decide) _ (y_assign rfl rfl) (fun a hF => ?_)
          refine vc_nil ?_
          refine hK16 _ _ ?_; clear  hK16 K16
          apply wp_seq_k; intro K17 hK17
          refine wp_region_lit ?_
          refine vc_y hF rfl rfl (by decide) _ (y_assign rfl rfl) (fun a hF => ?_)
          refine vc_nil ?_
          refine hK17 _ _ ?_; clear  hK17 K17
          apply wp_seq_k; intro K18 hK18
          by_cases hik : i.k = it.k
          · refine wp_region_plan 6 [6] [0,1,2,3,4,5,6] (fun x => Hq w0 ([row b24 54 it.cells] :: XL2 :: [row b4 25 (.int .i64 it.ct :: dc it.ch)] :: [row b1 23 (dc it.k)] :: R) x) (by kernel_rfl) (by kernel_rfl) (Hq.drew (Hp.qp [[row b24 54 it.cells], XL2, [row b4 25 (.int .i64 it.ct :: dc it.ch)], [row b1 23 (dc it.k)]] R [0, 1, 2, 3] hA28)) ?_
            have hA29 := Hl.drew hA28
            refine vp_y hF rfl rfl rfl rfl (by decide) _ (fun x hx => y_move rfl rfl) (fun a hF => ?_)
            refine vp_y hF rfl rfl rfl rfl (by decide) _ (fun x hx => y_move rfl rfl) (fun a hF => ?_)
            refine vp_y hF rfl rfl rfl rfl (by decide) _ (fun x hx => y_ixSl rfl Tryd.underlying55 sz54_s15 (by exact congrArg (fun A => some (Value.slice A l.length c)) hAd) rfl n rfl hlt rfl) (fun a hF => ?_)
            refine vp_y hF rfl rfl rfl rfl (by decide) _ (fun x hx => y_field rfl Tryd.underlying54 rfl sz23_s15 (by decide) rfl (rfl : (⟨_, _ + _, none⟩ : Addr) = ⟨b, q + n * 65 + 0, none⟩)) (fun a hF => ?_)
            refine vp_y hF rfl rfl rfl rfl (by decide) _ (fun x hx => y_ldRowC rfl (Hq.sub hx (List.Subset.trans hG (subC (subC (subC (subC (sub0))))))) rfl hc (n * 65) (by have := (rs_at hI hi).2; omega) rfl (rs_key hI hi) rw23_s15) (fun a hF => ?_)
            refine vp_y hF rfl rfl rfl rfl (by decide) _ (fun x hx => y_ldRow (new := dc it.k) rfl hx rfl 3 rfl rw23_s15 (by rw [hdk]; exact Nat.le_refl _) (by rw [List.drop_zero]; exact List.take_of_length_le (by rw [hdk]; exact Nat.le_refl _))) (fun a hF => ?_)
            refine vp_ly hF rfl rfl rfl rfl (by decide) _ (y_eqB rfl Tryd.underlying23 Tryd.underlying5 sz5_s15 (by kernel_rfl) rfl rfl hiK.k hx.k (decide_eq_true hik)) (fun h => absurd h (by decide)) (fun a hF => ?_)
            refine plan_end ?_
            refine hK18 _ _ ?_; clear  hK18 K18
            refine vc_true hF rfl ?_
            apply wp_exit
            refine hK13 _ _ ?_; clear hK14 K14 hK13 K13
            refine wp_region_lit ?_
            refine vc_y hF rfl rfl (by decide) _ (y_move rfl rfl) (fun a hF => ?_)
            refine vc_y hF rfl rfl (by decide) _ (y_add rfl rfl rfl (IntWalk.i64_in _ (by omega))) (fun a hF => ?_)
            refine vc_y hF rfl rfl (by decide) _ (y_assign rfl rfl) (fun a hF => ?_)
            refine vc_nil ?_
            have hA30 : Hp w0 (XL2 :: [row b4 25 (.int .i64 it.ct :: dc it.ch)] :: [row b1 23 (dc it.k)] :: R) w27.drew := Hp.sel [[row b24 54 it.cells], XL2, [row b4 25 (.int .i64 it.ct :: dc it.ch)], [row b1 23 (dc it.k)]] R [1, 2, 3] [0] hA29 rfl
            exact ⟨(n + 1, true, out ++ [it]), (by show l.length - (n + 1) < l.length - n; omega), _, _, (by show n + 1 ≤ l.length; omega), (by show (out ++ [it]).length ≤ n + 1 + 1; simp only [List.length_append, List.length_cons, List.length_nil]; omega), (by rw [if_pos rfl, hin]; show out ++ (if nb i.k < nb it.k then _ else if nb i.k = nb it.k then it :: l.drop (n + 1) else _) = _; rw [if_neg hls, if_pos (by rw [hik])]; simp), hO2, hF.keep [10, 9, 8, 0, 4, 5] rfl, hA30⟩
          · refine wp_region_plan 6 [6] [0,1,2,3,4,5,6] (fun x => Hq w0 ([row b24 54 it.cells] :: XL2 :: [row b4 25 (.int .i64 it.ct :: dc it.ch)] :: [row b1 23 (dc it.k)] :: R) x) (by kernel_rfl) (by kernel_rfl) (Hq.drew (Hp.qp [[row b24 54 it.cells], XL2, [row b4 25 (.int .i64 it.ct :: dc it.ch)], [row b1 23 (dc it.k)]] R [0, 1, 2, 3] hA28)) ?_
            have hA31 := Hl.drew hA28
            refine vp_y hF rfl rfl rfl rfl (by decide) _ (fun x hx => y_move rfl rfl) (fun a hF => ?_)
            refine vp_y hF rfl rfl rfl rfl (by decide) _ (fun x hx => y_move rfl rfl) (fun a hF => ?_)
            refine vp_y hF rfl rfl rfl rfl (by decide) _ (fun x hx => y_ixSl rfl Tryd.underlying55 sz54_s15 (by exact congrArg (fun A => some (Value.slice A l.length c)) hAd) rfl n rfl hlt rfl) (fun a hF => ?_)
            refine vp_y hF rfl rfl rfl rfl (by decide) _ (fun x hx => y_field rfl Tryd.underlying54 rfl sz23_s15 (by decide) rfl (rfl : (⟨_, _ + _, none⟩ : Addr) = ⟨b, q + n * 65 + 0, none⟩)) (fun a hF => ?_)
            refine vp_y hF rfl rfl rfl rfl (by decide) _ (fun x hx => y_ldRowC rfl (Hq.sub hx (List.Subset.trans hG (subC (subC (subC (subC (sub0))))))) rfl hc (n * 65) (by have := (rs_at hI hi).2; omega) rfl (rs_key hI hi) rw23_s15) (fun a hF => ?_)
            refine vp_y hF rfl rfl rfl rfl (by decide) _ (fun x hx => y_ldRow (new := dc it.k) rfl hx rfl 3 rfl rw23_s15 (by rw [hdk]; exact Nat.le_refl _) (by rw [List.drop_zero]; exact List.take_of_length_le (by rw [hdk]; exact Nat.le_refl _))) (fun a hF => ?_)
            refine vp_ly hF rfl rfl rfl rfl (by decide) _ (y_eqB rfl Tryd.underlying23 Tryd.underlying5 sz5_s15 (by kernel_rfl) rfl rfl hiK.k hx.k (decide_eq_false hik)) (fun h => absurd h (by decide)) (fun a hF => ?_)
            refine plan_end ?_
            refine hK18 _ _ ?_; clear  hK18 K18
            refine vc_false hF rfl ?_
            have hol2 : (out ++ [it]).length ≤ n + 2 := by rw [List.length_append]; show out.length + 1 ≤ n + 2; omega
            apply wp_skip
            refine hK14 _ _ ?_; clear  hK14 K14
            refine wp_region_lit ?_
            refine vc_y hF rfl rfl (by decide) _ (y_move rfl rfl) (fun a hF => ?_)
            refine vc_y hF rfl rfl (by decide) _ (y_move rfl rfl) (fun a hF => ?_)
            refine vc_y hF rfl rfl (by decide) _ (y_move rfl rfl) (fun a hF => ?_)
            refine vc_y hF rfl rfl (by decide) _ (y_ixSl rfl Tryd.underlying55 sz54_s15 (by exact congrArg (fun A => some (Value.slice A l.length c)) hAd) rfl n rfl hlt rfl) (fun a hF => ?_)
            refine vc_y hF rfl rfl (by decide) _ (y_ldRowC rfl (Hq.sub hA31.q (List.Subset.trans hG (subC (subC (subC (subC (sub0))))))) rfl hc (n * 65) (rs_at hI hi).2 rfl (rs_at hI hi).1 rw54_s15) (fun a hF => ?_)
            refine vc_op rfl (fun K hK => hs_bs (qs := #[(0, .agg i.cells.toArray)]) (cells := i.cells.toArray) hF rfl (by decide) rfl hA31 rfl (by exact rs_slice hiK) (fun b32 w33 a hb32 hF hA34 => hK _ _ ?_))
            clear hK K
            replace hA34 : Hp w0 ([row b32 54 i.cells] :: [row b24 54 it.cells] :: XL2 :: [row b4 25 (.int .i64 it.ct :: dc it.ch)] :: [row b1 23 (dc it.k)] :: R) w33 := hA34
            refine vc_op rfl (fun K hK => hs_append hF rfl (by decide) rfl hA34 2 rfl hO2 Tryd.underlying55 rt_elemI rfl rfl (Rc.srcC (W := i.cells) (m := 1) (size := 65) (R := [row b32 54 i.cells] :: [row b24 54 it.cells] :: XL2 :: [row b4 25 (.int .i64 it.ct :: dc it.ch)] :: [row b1 23 (dc it.k)] :: R) (Rc.ofRow (i := 0) (off := 0) rfl (by rw [List.drop_zero]; exact List.take_length ..)) hA34.q Tryd.underlying55 (by decide) (by rw [Itm.len hiK]) (Itm.one i)) (by omega) (by decide) (fun lv3 XL3 w35 a hO3 hF hA36 => hK _ _ ?_))
            clear hK K
            replace hA36 : Hp w0 ([row b32 54 i.cells] :: [row b24 54 it.cells] :: XL3 :: [row b4 25 (.int .i64 it.ct :: dc it.ch)] :: [row b1 23 (dc it.k)] :: R) w35 := hA36
            rw [← cel_snoc, show (out ++ [it]).length + 1 = (out ++ [it] ++ [i]).length from snoc_len _ _] at hO3
            refine vc_y hF rfl rfl (by decide) _ (y_assign rfl rfl) (fun a hF => ?_)
            refine vc_nil ?_
            refine hK13 _ _ ?_; clear  hK13 K13
            refine wp_region_lit ?_
            refine vc_y hF rfl rfl (by decide) _ (y_move rfl rfl) (fun a hF => ?_)
            refine vc_y hF rfl rfl (by decide) _ (y_add rfl rfl rfl (IntWalk.i64_in _ (by omega))) (fun a hF => ?_)
            refine vc_y hF rfl rfl (by decide) _ (y_assign rfl rfl) (fun a hF => ?_)
            refine vc_nil ?_
            have hA37 : Hp w0 (XL3 :: [row b4 25 (.int .i64 it.ct :: dc it.ch)] :: [row b1 23 (dc it.k)] :: R) w35 := Hp.sel [[row b32 54 i.cells], [row b24 54 it.cells], XL3, [row b4 25 (.int .i64 it.ct :: dc it.ch)], [row b1 23 (dc it.k)]] R [2, 3, 4] [0, 1] hA36 rfl
            exact ⟨(n + 1, true, out ++ [it] ++ [i]), (by show l.length - (n + 1) < l.length - n; omega), _, _, (by show n + 1 ≤ l.length; omega), (by show (out ++ [it] ++ [i]).length ≤ n + 1 + 1; simp only [List.length_append, List.length_cons, List.length_nil]; omega), (by rw [if_pos rfl, hin]; show out ++ (if nb i.k < nb it.k then _ else if nb i.k = nb it.k then _ else it :: i :: l.drop (n + 1)) = _; rw [if_neg hls, if_neg (fun e => hik ((nb_eq_iff hiK.k hx.k).1 e))]; simp), hO3, hF.keep [10, 9, 8, 0, 4, 5] rfl, hA37⟩
      · rw [if_pos rfl] at hin
        have hol : out.length ≤ n + 1 := hol
        apply wp_skip
        refine hK8 _ _ ?_; clear  hK8 K8
        apply wp_seq_k; intro K19 hK19
        apply wp_block
        apply wp_seq_k; intro K20 hK20
        apply wp_seq_k; intro K21 hK21
        refine wp_region_plan 11 [9,11] [0,1,2,3,4,5,6,7,8,9,10,11] (fun x => Hq w0 (XL :: [row b4 25 (.int .i64 it.ct :: dc it.ch)] :: [row b1 23 (dc it.k)] :: R) x) (by kernel_rfl) (by kernel_rfl) (Hq.drew (Hp.qp [XL, [row b4 25 (.int .i64 it.ct :: dc it.ch)], [row b1 23 (dc it.k)]] R [0, 1, 2] hA10)) ?_
        have hA38 := Hl.drew hA10
        refine vp_y hF rfl rfl rfl rfl (by decide) _ (fun x hx => y_move rfl rfl) (fun a hF => ?_)
        refine vp_y hF rfl rfl rfl rfl (by decide) _ (fun x hx => y_not rfl rfl rfl) (fun a hF => ?_)
        refine vp_y hF rfl rfl rfl rfl (by decide) _ (fun x hx => y_move rfl rfl) (fun a hF => ?_)
        refine vp_skip hF rfl rfl rfl rfl rfl rfl rfl rfl (by decide) (fun a hF => ?_)
        refine vp_skip hF rfl rfl rfl rfl rfl rfl rfl rfl (by decide) (fun a hF => ?_)
        refine vp_skip hF rfl rfl rfl rfl rfl rfl rfl rfl (by decide) (fun a hF => ?_)
        refine vp_skip hF rfl rfl rfl rfl rfl rfl rfl rfl (by decide) (fun a hF => ?_)
        refine vp_skip hF rfl rfl rfl rfl rfl rfl rfl rfl (by decide) (fun a hF => ?_)
        refine vp_skip hF rfl rfl rfl rfl rfl rfl rfl rfl (by decide) (fun a hF => ?_)
        refine vp_skipl hF rfl rfl rfl rfl rfl rfl rfl rfl (by decide) (Hp.qp [XL, [row b4 25 (.int .i64 it.ct :: dc it.ch)], [row b1 23 (dc it.k)]] R [0, 1, 2] hA38) (fun a hF => ?_)
        refine vp_skip hF rfl rfl rfl rfl rfl rfl rfl rfl (by decide) (fun a hF => ?_)
        refine vp_ly hF rfl rfl rfl rfl (by decide) _ (y_pick rfl rfl rfl) (fun h => absurd h (by decide)) (fun a hF => ?_)
        refine plan_end ?_
        refine hK21 _ _ ?_; clear  hK21 K21
        refine vc_false hF rfl ?_
        apply wp_skip
        refine hK20 _ _ ?_; clear  hK20 K20
        refine wp_region_lit ?_
        refine vc_y hF rfl rfl (by decide) _ (y_move rfl rfl) (fun a hF => ?_)
        refine vc_y hF rfl rfl (by decide) _ (y_move rfl rfl) (fun a hF => ?_)
        refine vc_y hF rfl rfl (by decide) _ (y_move rfl rfl) (fun a hF => ?_)
        refine vc_y hF rfl rfl (by decide) _ (y_ixSl rfl Tryd.underlying55 sz54_s15 (by exact congrArg (fun A => some (Value.slice A l.length c)) hAd) rfl n rfl hlt rfl) (fun a hF => ?_)
        refine vc_y hF rfl rfl (by decide) _ (y_ldRowC rfl (Hq.sub hA38.q (List.Subset.trans hG (subC (subC (subC (sub0)))))) rfl hc (n * 65) (rs_at hI hi).2 rfl (rs_at hI hi).1 rw54_s15) (fun a hF => ?_)
        refine vc_op rfl (fun K hK => hs_bs (qs := #[(0, .agg i.cells.toArray)]) (cells := i.cells.toArray) hF rfl (by decide) rfl hA38 rfl (by exact rs_slice hiK) (fun b39 w40 a hb39 hF hA41 => hK _ _ ?_))
        clear hK K
        replace hA41 : Hp w0 ([row b39 54 i.cells] :: XL :: [row b4 25 (.int .i64 it.ct :: dc it.ch)] :: [row b1 23 (dc it.k)] :: R) w40 := hA41
        refine vc_op rfl (fun K hK => hs_append hF rfl (by decide) rfl hA41 1 rfl hO Tryd.underlying55 rt_elemI rfl rfl (Rc.srcC (W := i.cells) (m := 1) (size := 65) (R := [row b39 54 i.cells] :: XL :: [row b4 25 (.int .i64 it.ct :: dc it.ch)] :: [row b1 23 (dc it.k)] :: R) (Rc.ofRow (i := 0) (off := 0) rfl (by rw [List.drop_zero]; exact List.take_length ..)) hA41.q Tryd.underlying55 (by decide) (by rw [Itm.len hiK]) (Itm.one i)) (by omega) (by decide) (fun lv2 XL2 w42 a hO2 hF hA43 => hK _ _ ?_))
        clear hK K
        replace hA43 : Hp w0 ([row b39 54 i.cells] :: XL2 :: [row b4 25 (.int .i64 it.ct :: dc it.ch)] :: [row b1 23 (dc it.k)] :: R) w42 := hA43
        rw [← cel_snoc, show (out).length + 1 = (out ++ [i]).length from snoc_len _ _] at hO2
        refine vc_y hF rfl rfl (by decide) _ (y_assign rfl rfl) (fun a hF => ?_)
        refine vc_nil ?_
        refine hK19 _ _ ?_; clear  hK19 K19
        refine wp_region_lit ?_
        refine vc_y hF rfl rfl (by decide) _ (y_move rfl rfl) (fun a hF => ?_)
        refine vc_y hF rfl rfl (by decide) _ (y_add rfl rfl rfl (IntWalk.i64_in _ (by omega))) (fun a hF => ?_)
        refine vc_y hF rfl rfl (by decide) _ (y_assign rfl rfl) (fun a hF => ?_)
        refine vc_nil ?_
        have hA44 : Hp w0 (XL2 :: [row b4 25 (.int .i64 it.ct :: dc it.ch)] :: [row b1 23 (dc it.k)] :: R) w42 := Hp.sel [[row b39 54 i.cells], XL2, [row b4 25 (.int .i64 it.ct :: dc it.ch)], [row b1 23 (dc it.k)]] R [1, 2, 3] [0] hA43 rfl
        exact ⟨(n + 1, true, out ++ [i]), (by show l.length - (n + 1) < l.length - n; omega), _, _, (by show n + 1 ≤ l.length; omega), (by show (out ++ [i]).length ≤ n + 1 + 1; simp only [List.length_append, List.length_cons, List.length_nil]; omega), (by rw [if_pos rfl, hin]; simp), hO2, hF.keep [10, 9, 8, 0, 4, 5] rfl, hA44⟩
    · refine vc_falseB hF rfl (lss_f (by omega)) ?_
      obtain rfl : n = l.length := by omega
      rw [List.drop_length] at hin
      cases dn
      · rw [if_neg Bool.false_ne_true] at hin
        have hol : out.length ≤ l.length := hol
        apply wp_exit
        refine hK6 _ _ ?_; clear hK8 K8 hK6 K6
        apply wp_seq_k; intro K22 hK22
        apply wp_seq_k; intro K23 hK23
        refine wp_region_lit ?_
        refine vc_y hF rfl rfl (by decide) _ (y_move rfl rfl) (fun a hF => ?_)
        refine vc_y hF rfl rfl (by decide) _ (y_not rfl rfl rfl) (fun a hF => ?_)
        refine vc_nil ?_
        refine hK23 _ _ ?_; clear  hK23 K23
        refine vc_true hF rfl ?_
        refine wp_region_lit ?_
        refine vc_y hF rfl rfl (by decide) _ (y_move rfl rfl) (fun a hF => ?_)
        refine vc_y hF rfl rfl (by decide) _ (y_ldRow (new := dc it.k) rfl hA10.q rfl 2 rfl rw23_s15 (by rw [hdk]; exact Nat.le_refl _) (by rw [List.drop_zero]; exact List.take_of_length_le (by rw [hdk]; exact Nat.le_refl _))) (fun a hF => ?_)
        refine vc_y hF rfl rfl (by decide) _ (y_ldRow (new := .int .i64 it.ct :: dc it.ch) rfl hA10.q rfl 1 rfl rw25_s15 (by rw [hde]; exact Nat.le_refl _) (by rw [List.drop_zero]; exact List.take_of_length_le (by rw [hde]; exact Nat.le_refl _))) (fun a hF => ?_)
        refine vc_y hF rfl rfl (by decide) _ (y_build (v := .agg it.cells.toArray) (qs := #[(0, .agg (dc it.k).toArray), (1, .agg (.int .i64 it.ct :: dc it.ch).toArray)]) rfl rfl (by exact rs_item hx)) (fun a hF => ?_)
        refine vc_op rfl (fun K hK => hs_bs (qs := #[(0, .agg it.cells.toArray)]) (cells := it.cells.toArray) hF rfl (by decide) rfl hA10 rfl (by exact rs_slice hx) (fun b45 w46 a hb45 hF hA47 => hK _ _ ?_))
        clear hK K
        replace hA47 : Hp w0 ([row b45 54 it.cells] :: XL :: [row b4 25 (.int .i64 it.ct :: dc it.ch)] :: [row b1 23 (dc it.k)] :: R) w46 := hA47
        refine vc_op rfl (fun K hK => hs_append hF rfl (by decide) rfl hA47 1 rfl hO Tryd.underlying55 rt_elemI rfl rfl (Rc.srcC (W := it.cells) (m := 1) (size := 65) (R := [row b45 54 it.cells] :: XL :: [row b4 25 (.int .i64 it.ct :: dc it.ch)] :: [row b1 23 (dc it.k)] :: R) (Rc.ofRow (i := 0) (off := 0) rfl (by rw [List.drop_zero]; exact List.take_length ..)) hA47.q Tryd.underlying55 (by decide) (by rw [Itm.len hx]) (Itm.one it)) (by omega) (by decide) (fun lv2 XL2 w48 a hO2 hF hA49 => hK _ _ ?_))
        clear hK K
        replace hA49 : Hp w0 ([row b45 54 it.cells] :: XL2 :: [row b4 25 (.int .i64 it.ct :: dc it.ch)] :: [row b1 23 (dc it.k)] :: R) w48 := hA49
        rw [← cel_snoc, show (out).length + 1 = (out ++ [it]).length from snoc_len _ _] at hO2
        refine vc_y hF rfl rfl (by decide) _ (y_assign rfl rfl) (fun a hF => ?_)
        refine vc_nil ?_
        refine hK22 _ _ ?_; clear  hK22 K22
        apply wp_seq_k; intro K24 hK24
        refine wp_region_lit ?_
        refine vc_y hF rfl rfl (by decide) _ (y_move rfl rfl) (fun a hF => ?_)
        refine vc_y hF rfl rfl (by decide) _ (y_assign rfl rfl) (fun a hF => ?_)
        refine vc_y hF rfl rfl (by decide) _ (y_assign rfl rfl) (fun a hF => ?_)
        refine vc_nil ?_
        refine hK24 _ _ ?_; clear  hK24 K24
        apply wp_ret
        refine vc_ret2 hF Tryd.results92 rfl rfl ?_
        have hA50 : Hp w0 (XL2 :: R) w48 := Hp.sel [[row b45 54 it.cells], XL2, [row b4 25 (.int .i64 it.ct :: dc it.ch)], [row b1 23 (dc it.k)]] R [1] [0, 2, 3] hA49 rfl
        have hin2 : insL it l = out ++ [it] := hin
        rw [← hin2] at hO2
        rw [if_pos hok, if_pos hok]
        exact ⟨_, _, rfl, hO2, hA50⟩
      · rw [if_pos rfl, List.append_nil] at hin
        apply wp_exit
        refine hK6 _ _ ?_; clear hK8 K8 hK6 K6
        apply wp_seq_k; intro K25 hK25
        apply wp_seq_k; intro K26 hK26
        refine wp_region_lit ?_
        refine vc_y hF rfl rfl (by decide) _ (y_move rfl rfl) (fun a hF => ?_)
        refine vc_y hF rfl rfl (by decide) _ (y_not rfl rfl rfl) (fun a hF => ?_)
        refine vc_nil ?_
        refine hK26 _ _ ?_; clear  hK26 K26
        refine vc_false hF rfl ?_
        apply wp_skip
        refine hK25 _ _ ?_; clear  hK25 K25
        apply wp_seq_k; intro K27 hK27
        refine wp_region_lit ?_
        refine vc_y hF rfl rfl (by decide) _ (y_move rfl rfl) (fun a hF => ?_)
        refine vc_y hF rfl rfl (by decide) _ (y_assign rfl rfl) (fun a hF => ?_)
        refine vc_y hF rfl rfl (by decide) _ (y_assign rfl rfl) (fun a hF => ?_)
        refine vc_nil ?_
        refine hK27 _ _ ?_; clear  hK27 K27
        apply wp_ret
        refine vc_ret2 hF Tryd.results92 rfl rfl ?_
        have hA51 : Hp w0 (XL :: R) w11 := Hp.sel [XL, [row b4 25 (.int .i64 it.ct :: dc it.ch)], [row b1 23 (dc it.k)]] R [0] [1, 2] hA10 rfl
        rw [← hin] at hO
        rw [if_pos hok, if_pos hok]
        exact ⟨_, _, rfl, hO, hA51⟩
  · refine wp_region_lit ?_
    refine vc_y hF rfl rfl (by decide) _ (y_ldRow (new := .int .i64 it.ct :: dc it.ch) rfl hA6.q rfl 0 rfl rw25_s15 (by rw [hde]; exact Nat.le_refl _) (by rw [List.drop_zero]; exact List.take_of_length_le (by rw [hde]; exact Nat.le_refl _))) (fun a hF => ?_)
    refine vc_op rfl (fun K hK => ws_call hF rfl (by decide) cl46_s15 rfl rfl ?_)
    with_reducible refine (sp_right w0 _ ([row b4 25 (.int .i64 it.ct :: dc it.ch)] :: [row b1 23 (dc it.k)] :: R) it.ct it.ch hA6 ).mono ?_
    rintro e' w52 ⟨rfl, hA53⟩
    refine ⟨_, rfl, fun a hF => hK _ _ ?_⟩
    clear hK K
    replace hA53 : Hp w0 ([row b4 25 (.int .i64 it.ct :: dc it.ch)] :: [row b1 23 (dc it.k)] :: R) w52 := hA53
    rw [decide_eq_false hct] at hF
    refine vc_y hF rfl rfl (by decide) _ (y_not rfl rfl rfl) (fun a hF => ?_)
    refine vc_nil ?_
    refine hK3 _ _ ?_; clear  hK3 K3
    refine vc_true hF rfl ?_
    apply wp_seq_k; intro K28 hK28
    refine wp_region_lit ?_
    refine vc_y hF rfl rfl (by decide) _ (y_assign rfl rfl) (fun a hF => ?_)
    refine vc_y hF rfl rfl (by decide) _ (y_assign rfl rfl) (fun a hF => ?_)
    refine vc_nil ?_
    refine hK28 _ _ ?_; clear  hK28 K28
    apply wp_ret
    simp only [Exit.then]
    refine vc_ret2 hF Tryd.results92 rfl rfl ?_
    have hA54 : Hp w0 (R) w52 := Hp.sel [[row b4 25 (.int .i64 it.ct :: dc it.ch)], [row b1 23 (dc it.k)]] R [] [0, 1] hA53 rfl
    have hok : ¬ okC it = true := by rw [okC_dec, decide_eq_false hct]; exact Bool.false_ne_true
    rw [if_neg hok, if_neg hok]
    exact ⟨_, [], rfl, Buf.nil 54 65, hA54⟩

set_option maxRecDepth 100000 in
set_option maxHeartbeats 2000000 in
theorem rr_build (w0 w : World) (R G : List Seg) (hG : G ⊆ R) (A : Option Addr) (l : List Itm) (c : Nat) (hlc : l.length ≤ c) (hcm : l.length ≤ 100000) (hI : ∀ i ∈ l, i.OK) (hL : Rc w0 G A (cel Itm.cells l)) (hA : Hp w0 R w) : Calls Tryd.prog 69 #[.slice A l.length c] w fun e w' => ∃ v X, e = .returned (.tuple #[v, .int .i64 (((bldS [] l).1 : Nat) : Int)]) ∧ Buf 54 65 X v (bldS [] l).2.length (cel Itm.cells (bldS [] l).2) ∧ Hp w0 (X :: R) w' := by
  refine vc_enter Tryd.func69 rfl Tryd.ntmps69 (Nat.le_of_ble_eq_true rfl) (fun a hF => ?_)
  apply wp_seq_k; intro K1 hK1
  refine wp_region_lit ?_
  refine vc_y hF rfl rfl (by decide) _ (y_assign rfl rfl) (fun a hF => ?_)
  refine vc_y hF rfl rfl (by decide) _ (y_assign rfl rfl) (fun a hF => ?_)
  refine vc_nil ?_
  refine hK1 _ _ ?_; clear  hK1 K1
  apply wp_seq_k; intro K2 hK2
  refine wp_region_lit ?_
  refine vc_y hF rfl rfl (by decide) _ (y_assign rfl rfl) (fun a hF => ?_)
  refine vc_nil ?_
  refine hK2 _ _ ?_; clear  hK2 K2
  apply wp_seq_k; intro K3 hK3
  apply wp_seq_k; intro K4 hK4
  refine wp_region_lit ?_
  refine vc_y hF rfl rfl (by decide) _ (y_assign rfl rfl) (fun a hF => ?_)
  refine vc_nil ?_
  refine hK4 _ _ ?_; clear  hK4 K4
  apply wp_block
  have hA1 : Hp w0 ([] :: R) w := hA
  refine vc_loop (G := Nat × List Itm) (fun gh a x => ∃ (lv : Value) (XL : Seg), gh.1 ≤ l.length ∧ gh.2.length ≤ gh.1 ∧ (∀ i ∈ gh.2, i.OK) ∧ bldS [] l = bldS gh.2 (l.drop gh.1) ∧ Buf 54 65 XL lv gh.2.length (cel Itm.cells gh.2) ∧ Fr 48 [(5, .int .i64 (gh.1 : Int)), (4, lv), (0, .slice A l.length c)] a ∧ Hp w0 (XL :: R) x) (fun gh => l.length - gh.1) (0, []) (⟨_, _, Nat.zero_le _, (Nat.zero_le _), (fun i hi => by cases hi), (by show bldS [] l = bldS [] (l.drop 0); rw [List.drop_zero]), (Buf.nil 54 65), hF.keep [5, 4, 0] rfl, hA1⟩) ?_
  clear hF
  rintro gh a w3 ⟨lv, XL, hn, hol, hoK, hbl, hO, hF, hA2⟩
  obtain ⟨n, acc⟩ := gh
  simp only at hn hol hoK hbl hO hF
  apply wp_seq_k; intro K5 hK5
  apply wp_seq_k; intro K6 hK6
  refine wp_region_lit ?_
  refine vc_y hF rfl rfl (by decide) _ (y_move rfl rfl) (fun a hF => ?_)
  refine vc_y hF rfl rfl (by decide) _ (y_move rfl rfl) (fun a hF => ?_)
  refine vc_y hF rfl rfl (by decide) _ (y_lenSl rfl Tryd.underlying55 rfl rfl) (fun a hF => ?_)
  refine vc_y hF rfl rfl (by decide) _ (y_cmp rfl rfl rfl rfl rfl) (fun a hF => ?_)
  refine vc_nil ?_
  refine hK6 _ _ ?_; clear  hK6 K6
  by_cases hlt : n < l.length
  · refine vc_trueB hF rfl (lss_t (by omega)) ?_
    obtain ⟨i, hi⟩ : ∃ i, l[n]? = some i := ⟨_, List.getElem?_eq_getElem hlt⟩
    have hiK := hI i (List.mem_of_getElem? hi)
    have hrb := (rs_at hI hi).2
    obtain ⟨b, q, hAd, hc⟩ := hL.ne (i := n * 65) (by omega)
    have hdr : l.drop n = i :: l.drop (n + 1) := by rw [List.drop_eq_getElem_cons hlt]; congr 1; exact Option.some.inj ((List.getElem?_eq_getElem hlt).symm.trans hi)
    have hFn := hF
    obtain ⟨AO, cO, rfl, hcO, hRO⟩ := hO.rc (w0 := w0) (R := [XL]) (List.mem_cons_self ..)
    have hF := hFn
    by_cases hct : 1 ≤ i.ct ∧ i.ct ≤ 1099511627776
    · apply wp_skip
      refine hK5 _ _ ?_; clear  hK5 K5
      apply wp_seq_k; intro K7 hK7
      apply wp_block
      apply wp_seq_k; intro K8 hK8
      apply wp_seq_k; intro K9 hK9
      refine wp_region_lit ?_
      refine vc_y hF rfl rfl (by decide) _ (y_move rfl rfl) (fun a hF => ?_)
      refine vc_y hF rfl rfl (by decide) _ (y_move rfl rfl) (fun a hF => ?_)
      refine vc_y hF rfl rfl (by decide) _ (y_ixSl rfl Tryd.underlying55 sz54_s15 (by exact congrArg (fun A => some (Value.slice A l.length c)) hAd) rfl n rfl hlt rfl) (fun a hF => ?_)
      refine vc_y hF rfl rfl (by decide) _ (y_field rfl Tryd.underlying54 rfl sz25_s15 (by decide) rfl (rfl : (⟨_, _ + _, none⟩ : Addr) = ⟨b, q + n * 65 + 32, none⟩)) (fun a hF => ?_)
      refine vc_y hF rfl rfl (by decide) _ (y_ldRowC rfl (Hq.sub hA2.q (List.Subset.trans hG (subC (sub0)))) rfl hc (n * 65 + 32) (by have := (rs_at hI hi).2; omega) (by omega) (rs_ent hI hi) rw25_s15) (fun a hF => ?_)
      refine vc_op rfl (fun K hK => ws_call hF rfl (by decide) cl46_s15 rfl rfl ?_)
      with_reducible refine (sp_right w0 _ (XL :: R) i.ct i.ch hA2 ).mono ?_
      rintro e' w4 ⟨rfl, hA5⟩
      refine ⟨_, rfl, fun a hF => hK _ _ ?_⟩
      clear hK K
      replace hA5 : Hp w0 (XL :: R) w4 := hA5
      rw [decide_eq_true hct] at hF
      refine vc_y hF rfl rfl (by decide) _ (y_not rfl rfl rfl) (fun a hF => ?_)
      refine vc_nil ?_
      refine hK9 _ _ ?_; clear  hK9 K9
      refine vc_false hF rfl ?_
      have hok : okC i = true := decide_eq_true hct
      have hch := getCh_length hoK i.k
      have hel : (Value.int .i64 (getCt acc i.k) :: dc (getCh acc i.k)).length = 33 := by rw [List.length_cons, dc_length, hch]
      by_cases hh : hasK acc i.k = true
      · have hss : (getL acc i.k).isSome = true := by rw [getL_has]; exact hh
        apply wp_skip
        refine hK8 _ _ ?_; clear  hK8 K8
        apply wp_seq_k; intro K10 hK10
        refine wp_region_lit ?_
        refine vc_y hF rfl rfl (by decide) _ (y_move rfl rfl) (fun a hF => ?_)
        refine vc_y hF rfl rfl (by decide) _ (y_move rfl rfl) (fun a hF => ?_)
        refine vc_y hF rfl rfl (by decide) _ (y_move rfl rfl) (fun a hF => ?_)
        refine vc_y hF rfl rfl (by decide) _ (y_ixSl rfl Tryd.underlying55 sz54_s15 (by exact congrArg (fun A => some (Value.slice A l.length c)) hAd) rfl n rfl hlt rfl) (fun a hF => ?_)
        refine vc_y hF rfl rfl (by decide) _ (y_field rfl Tryd.underlying54 rfl sz23_s15 (by decide) rfl (rfl : (⟨_, _ + _, none⟩ : Addr) = ⟨b, q + n * 65 + 0, none⟩)) (fun a hF => ?_)
        refine vc_y hF rfl rfl (by decide) _ (y_ldRowC rfl (Hq.sub hA5.q (List.Subset.trans hG (subC (sub0)))) rfl hc (n * 65) (by have := (rs_at hI hi).2; omega) rfl (rs_key hI hi) rw23_s15) (fun a hF => ?_)
        refine vc_op rfl (fun K hK => ws_call hF rfl (by decide) cl71_s15 rfl rfl ?_)
        with_reducible refine (rr_get w0 _ (XL :: R) [XL] (sub1 ((List.mem_cons_self ..))) AO acc cO hcO (by omega) hoK hRO i.k hiK.k hA5 ).mono ?_
        rintro e' w6 ⟨rfl, hA7⟩
        refine ⟨_, rfl, fun a hF => hK _ _ ?_⟩
        clear hK K
        replace hA7 : Hp w0 (XL :: R) w6 := hA7
        rw [hss] at hF
        refine vc_y hF rfl rfl (by decide) _ (y_move rfl rfl) (fun a hF => ?_)
        refine vc_y hF rfl rfl (by decide) _ (y_extract (v := .agg (.int .i64 (getCt acc i.k) :: dc (getCh acc i.k)).toArray) rfl rfl rfl) (fun a hF => ?_)
        refine vc_y hF rfl rfl (by decide) _ (y_extract (v := .bool true) rfl rfl rfl) (fun a hF => ?_)
        refine vc_op rfl (fun K hK => hs_alloc hF rfl (by decide) rfl hA7 (zr25_s15) (fun b8 w9 a hb8 hF hA10 => hK _ _ ?_))
        clear hK K
        replace hA10 : Hp w0 ([row b8 25 [.int .i64 0, .int .u8 0, .int .u8 0, .int .u8 0, .int .u8 0, .int .u8 0, .int .u8 0, .int .u8 0, .int .u8 0, .int .u8 0, .int .u8 0, .int .u8 0, .int .u8 0, .int .u8 0, .int .u8 0, .int .u8 0, .int .u8 0, .int .u8 0, .int .u8 0, .int .u8 0, .int .u8 0, .int .u8 0, .int .u8 0, .int .u8 0, .int .u8 0, .int .u8 0, .int .u8 0, .int .u8 0, .int .u8 0, .int .u8 0, .int .u8 0, .int .u8 0, .int .u8 0]] :: XL :: R) w9 := hA10
        refine vc_op rfl (fun K hK => hs_storeAll (new := .int .i64 (getCt acc i.k) :: dc (getCh acc i.k)) hF rfl rfl hA10 rfl rfl 0 rfl (by rw [hel]; rfl) (ent_one _ _) sz25_s15 (fun w11 hA12 => hK _ _ ?_))
        clear hK K
        replace hA12 : Hp w0 ([row b8 25 (.int .i64 (getCt acc i.k) :: dc (getCh acc i.k))] :: XL :: R) w11 := hA12
        refine vc_y hF rfl rfl (by decide) _ (y_assign rfl rfl) (fun a hF => ?_)
        refine vc_nil ?_
        refine hK10 _ _ ?_; clear  hK10 K10
        apply wp_seq_k; intro K11 hK11
        apply wp_seq_k; intro K12 hK12
        refine wp_region_lit ?_
        refine vc_y hF rfl rfl (by decide) _ (y_move rfl rfl) (fun a hF => ?_)
        refine vc_nil ?_
        refine hK12 _ _ ?_; clear  hK12 K12
        refine vc_true hF rfl ?_
        apply wp_seq_k; intro K13 hK13
        refine wp_region_lit ?_
        refine vc_y hF rfl rfl (by decide) _ (y_assign rfl rfl) (fun a hF => ?_)
        refine vc_y hF rfl rfl (by decide) _ (y_assign rfl rfl) (fun a hF => ?_)
        refine vc_nil ?_
        refine hK13 _ _ ?_; clear  hK13 K13
        apply wp_ret
        simp only [Exit.then, Exit.inBlock]
        refine vc_ret2 hF Tryd.results69 rfl rfl ?_
        have hA13 : Hp w0 (XL :: R) w11 := Hp.sel [[row b8 25 (.int .i64 (getCt acc i.k) :: dc (getCh acc i.k))], XL] R [1] [0] hA12 rfl
        have hre : bldS [] l = (92, []) := by rw [hbl, hdr]; unfold bldS; rw [if_pos hok, if_pos hh]
        rw [hre]
        exact ⟨_, [], rfl, Buf.nil 54 65, hA13.tail⟩
      · have hss : (getL acc i.k).isSome = false := by rw [getL_has]; simpa using hh
        apply wp_skip
        refine hK8 _ _ ?_; clear  hK8 K8
        apply wp_seq_k; intro K14 hK14
        refine wp_region_lit ?_
        refine vc_y hF rfl rfl (by decide) _ (y_move rfl rfl) (fun a hF => ?_)
        refine vc_y hF rfl rfl (by decide) _ (y_move rfl rfl) (fun a hF => ?_)
        refine vc_y hF rfl rfl (by decide) _ (y_move rfl rfl) (fun a hF => ?_)
        refine vc_y hF rfl rfl (by decide) _ (y_ixSl rfl Tryd.underlying55 sz54_s15 (by exact congrArg (fun A => some (Value.slice A l.length c)) hAd) rfl n rfl hlt rfl) (fun a hF => ?_)
        refine vc_y hF rfl rfl (by decide) _ (y_field rfl Tryd.underlying54 rfl sz23_s15 (by decide) rfl (rfl : (⟨_, _ + _, none⟩ : Addr) = ⟨b, q + n * 65 + 0, none⟩)) (fun a hF => ?_)
        refine vc_y hF rfl rfl (by decide) _ (y_ldRowC rfl (Hq.sub hA5.q (List.Subset.trans hG (subC (sub0)))) rfl hc (n * 65) (by have := (rs_at hI hi).2; omega) rfl (rs_key hI hi) rw23_s15) (fun a hF => ?_)
        refine vc_op rfl (fun K hK => ws_call hF rfl (by decide) cl71_s15 rfl rfl ?_)
        with_reducible refine (rr_get w0 _ (XL :: R) [XL] (sub1 ((List.mem_cons_self ..))) AO acc cO hcO (by omega) hoK hRO i.k hiK.k hA5 ).mono ?_
        rintro e' w14 ⟨rfl, hA15⟩
        refine ⟨_, rfl, fun a hF => hK _ _ ?_⟩
        clear hK K
        replace hA15 : Hp w0 (XL :: R) w14 := hA15
        rw [hss] at hF
        refine vc_y hF rfl rfl (by decide) _ (y_move rfl rfl) (fun a hF => ?_)
        refine vc_y hF rfl rfl (by decide) _ (y_extract (v := .agg (.int .i64 (getCt acc i.k) :: dc (getCh acc i.k)).toArray) rfl rfl rfl) (fun a hF => ?_)
        refine vc_y hF rfl rfl (by decide) _ (y_extract (v := .bool false) rfl rfl rfl) (fun a hF => ?_)
        refine vc_op rfl (fun K hK => hs_alloc hF rfl (by decide) rfl hA15 (zr25_s15) (fun b16 w17 a hb16 hF hA18 => hK _ _ ?_))
        clear hK K
        replace hA18 : Hp w0 ([row b16 25 [.int .i64 0, .int .u8 0, .int .u8 0, .int .u8 0, .int .u8 0, .int .u8 0, .int .u8 0, .int .u8 0, .int .u8 0, .int .u8 0, .int .u8 0, .int .u8 0, .int .u8 0, .int .u8 0, .int .u8 0, .int .u8 0, .int .u8 0, .int .u8 0, .int .u8 0, .int .u8 0, .int .u8 0, .int .u8 0, .int .u8 0, .int .u8 0, .int .u8 0, .int .u8 0, .int .u8 0, .int .u8 0, .int .u8 0, .int .u8 0, .int .u8 0, .int .u8 0, .int .u8 0]] :: XL :: R) w17 := hA18
        refine vc_op rfl (fun K hK => hs_storeAll (new := .int .i64 (getCt acc i.k) :: dc (getCh acc i.k)) hF rfl rfl hA18 rfl rfl 0 rfl (by rw [hel]; rfl) (ent_one _ _) sz25_s15 (fun w19 hA20 => hK _ _ ?_))
        clear hK K
        replace hA20 : Hp w0 ([row b16 25 (.int .i64 (getCt acc i.k) :: dc (getCh acc i.k))] :: XL :: R) w19 := hA20
        refine vc_y hF rfl rfl (by decide) _ (y_assign rfl rfl) (fun a hF => ?_)
        refine vc_nil ?_
        refine hK14 _ _ ?_; clear  hK14 K14
        apply wp_seq_k; intro K15 hK15
        apply wp_seq_k; intro K16 hK16
        refine wp_region_lit ?_
        refine vc_y hF rfl rfl (by decide) _ (y_move rfl rfl) (fun a hF => ?_)
        refine vc_nil ?_
        refine hK16 _ _ ?_; clear  hK16 K16
        refine vc_false hF rfl ?_
        apply wp_skip
        refine hK15 _ _ ?_; clear  hK15 K15
        refine wp_region_planN 16 [11] [0,1,2,3,4,5,6,7,8,9,10,11,12,13,14,15] (fun x => Hq w0 ([row b16 25 (.int .i64 (getCt acc i.k) :: dc (getCh acc i.k))] :: XL :: R) x) (by kernel_rfl) (by kernel_rfl) (Hq.drew (Hp.qp [[row b16 25 (.int .i64 (getCt acc i.k) :: dc (getCh acc i.k))], XL] R [0, 1] hA20)) ?_
        have hA21 := Hl.drew hA20
        refine vp_y hF rfl rfl rfl rfl (by decide) _ (fun x hx => y_move rfl rfl) (fun a hF => ?_)
        refine vp_y hF rfl rfl rfl rfl (by decide) _ (fun x hx => y_move rfl rfl) (fun a hF => ?_)
        refine vp_y hF rfl rfl rfl rfl (by decide) _ (fun x hx => y_move rfl rfl) (fun a hF => ?_)
        refine vp_y hF rfl rfl rfl rfl (by decide) _ (fun x hx => y_ixSl rfl Tryd.underlying55 sz54_s15 (by exact congrArg (fun A => some (Value.slice A l.length c)) hAd) rfl n rfl hlt rfl) (fun a hF => ?_)
        refine vp_y hF rfl rfl rfl rfl (by decide) _ (fun x hx => y_field rfl Tryd.underlying54 rfl sz23_s15 (by decide) rfl (rfl : (⟨_, _ + _, none⟩ : Addr) = ⟨b, q + n * 65 + 0, none⟩)) (fun a hF => ?_)
        refine vp_y hF rfl rfl rfl rfl (by decide) _ (fun x hx => y_ldRowC rfl (Hq.sub hx (List.Subset.trans hG (subC (subC (sub0))))) rfl hc (n * 65) (by have := (rs_at hI hi).2; omega) rfl (rs_key hI hi) rw23_s15) (fun a hF => ?_)
        refine vp_y hF rfl rfl rfl rfl (by decide) _ (fun x hx => y_move rfl rfl) (fun a hF => ?_)
        refine vp_y hF rfl rfl rfl rfl (by decide) _ (fun x hx => y_move rfl rfl) (fun a hF => ?_)
        refine vp_y hF rfl rfl rfl rfl (by decide) _ (fun x hx => y_ixSl rfl Tryd.underlying55 sz54_s15 (by exact congrArg (fun A => some (Value.slice A l.length c)) hAd) rfl n rfl hlt rfl) (fun a hF => ?_)
        refine vp_y hF rfl rfl rfl rfl (by decide) _ (fun x hx => y_field rfl Tryd.underlying54 rfl sz25_s15 (by decide) rfl (rfl : (⟨_, _ + _, none⟩ : Addr) = ⟨b, q + n * 65 + 32, none⟩)) (fun a hF => ?_)
        refine vp_y hF rfl rfl rfl rfl (by decide) _ (fun x hx => y_ldRowC rfl (Hq.sub hx (List.Subset.trans hG (subC (subC (sub0))))) rfl hc (n * 65 + 32) (by have := (rs_at hI hi).2; omega) (by omega) (rs_ent hI hi) rw25_s15) (fun a hF => ?_)
        refine vp_l rfl rfl rfl (fun K hK => ws_call hF rfl (by decide) cl92_s15 rfl rfl ?_)
        with_reducible refine (rr_put w0 _ ([row b16 25 (.int .i64 (getCt acc i.k) :: dc (getCh acc i.k))] :: XL :: R) [XL] (sub1 (List.mem_cons_of_mem _ ((List.mem_cons_self ..)))) AO acc cO hcO (by omega) hoK hRO i hiK hA21 ).mono ?_
        rintro e' w22 ⟨lv2, XL2, rfl, hO2, hA23⟩
        refine ⟨_, rfl, fun a hF => hK _ _ (fun _ => ?_) ?_⟩
        · exact Hp.qp [XL2, [row b16 25 (.int .i64 (getCt acc i.k) :: dc (getCh acc i.k))], XL] R [1, 2] hA23
        clear hK K
        replace hA23 : Hp w0 (XL2 :: [row b16 25 (.int .i64 (getCt acc i.k) :: dc (getCh acc i.k))] :: XL :: R) w22 := hA23
        rw [if_pos hok] at hF hO2
        refine vp_y hF rfl rfl rfl rfl (by decide) _ (fun x hx => y_move rfl rfl) (fun a hF => ?_)
        refine vp_y hF rfl rfl rfl rfl (by decide) _ (fun x hx => y_extract (v := lv2) rfl rfl rfl) (fun a hF => ?_)
        refine vp_y hF rfl rfl rfl rfl (by decide) _ (fun x hx => y_extract (v := .int .i64 0) rfl rfl rfl) (fun a hF => ?_)
        refine vp_y hF rfl rfl rfl rfl (by decide) _ (fun x hx => y_assign rfl rfl) (fun a hF => ?_)
        refine plan_end ?_
        refine hK7 _ _ ?_; clear  hK7 K7
        refine wp_region_lit ?_
        refine vc_y hF rfl rfl (by decide) _ (y_move rfl rfl) (fun a hF => ?_)
        refine vc_y hF rfl rfl (by decide) _ (y_add rfl rfl rfl (IntWalk.i64_in _ (by omega))) (fun a hF => ?_)
        refine vc_y hF rfl rfl (by decide) _ (y_assign rfl rfl) (fun a hF => ?_)
        refine vc_nil ?_
        have hle := insL_len (i := i) acc
        have hA24 : Hp w0 (XL2 :: R) w22 := Hp.sel [XL2, [row b16 25 (.int .i64 (getCt acc i.k) :: dc (getCh acc i.k))], XL] R [0] [1, 2] hA23 rfl
        exact ⟨(n + 1, insL i acc), (by show l.length - (n + 1) < l.length - n; omega), _, _, (by show n + 1 ≤ l.length; omega), (by show (insL i acc).length ≤ n + 1; omega), insL_ok hiK hoK, (by rw [hbl, hdr]; show (if okC i = true then (if hasK acc i.k = true then _ else _) else _) = _; rw [if_pos hok, if_neg hh]), hO2, hF.keep [5, 4, 0] rfl, hA24⟩
    · apply wp_skip
      refine hK5 _ _ ?_; clear  hK5 K5
      apply wp_seq_k; intro K17 hK17
      apply wp_block
      apply wp_seq_k; intro K18 hK18
      apply wp_seq_k; intro K19 hK19
      refine wp_region_lit ?_
      refine vc_y hF rfl rfl (by decide) _ (y_move rfl rfl) (fun a hF => ?_)
      refine vc_y hF rfl rfl (by decide) _ (y_move rfl rfl) (fun a hF => ?_)
      refine vc_y hF rfl rfl (by decide) _ (y_ixSl rfl Tryd.underlying55 sz54_s15 (by exact congrArg (fun A => some (Value.slice A l.length c)) hAd) rfl n rfl hlt rfl) (fun a hF => ?_)
      refine vc_y hF rfl rfl (by decide) _ (y_field rfl Tryd.underlying54 rfl sz25_s15 (by decide) rfl (rfl : (⟨_, _ + _, none⟩ : Addr) = ⟨b, q + n * 65 + 32, none⟩)) (fun a hF => ?_)
      refine vc_y hF rfl rfl (by decide) _ (y_ldRowC rfl (Hq.sub hA2.q (List.Subset.trans hG (subC (sub0)))) rfl hc (n * 65 + 32) (by have := (rs_at hI hi).2; omega) (by omega) (rs_ent hI hi) rw25_s15) (fun a hF => ?_)
      refine vc_op rfl (fun K hK => ws_call hF rfl (by decide) cl46_s15 rfl rfl ?_)
      with_reducible refine (sp_right w0 _ (XL :: R) i.ct i.ch hA2 ).mono ?_
      rintro e' w25 ⟨rfl, hA26⟩
      refine ⟨_, rfl, fun a hF => hK _ _ ?_⟩
      clear hK K
      replace hA26 : Hp w0 (XL :: R) w25 := hA26
      rw [decide_eq_false hct] at hF
      refine vc_y hF rfl rfl (by decide) _ (y_not rfl rfl rfl) (fun a hF => ?_)
      refine vc_nil ?_
      refine hK19 _ _ ?_; clear  hK19 K19
      refine vc_true hF rfl ?_
      apply wp_seq_k; intro K20 hK20
      refine wp_region_lit ?_
      refine vc_y hF rfl rfl (by decide) _ (y_assign rfl rfl) (fun a hF => ?_)
      refine vc_y hF rfl rfl (by decide) _ (y_assign rfl rfl) (fun a hF => ?_)
      refine vc_nil ?_
      refine hK20 _ _ ?_; clear  hK20 K20
      apply wp_ret
      simp only [Exit.then, Exit.inBlock]
      refine vc_ret2 hF Tryd.results69 rfl rfl ?_
      have hre : bldS [] l = (8, []) := by rw [hbl, hdr]; unfold bldS; rw [if_neg (by unfold okC; rw [decide_eq_false hct]; exact Bool.false_ne_true)]
      rw [hre]
      exact ⟨_, [], rfl, Buf.nil 54 65, hA26.tail⟩
  · refine vc_falseB hF rfl (lss_f (by omega)) ?_
    obtain rfl : n = l.length := by omega
    rw [List.drop_length] at hbl
    have hre : bldS [] l = (0, acc) := hbl
    apply wp_exit
    refine hK3 _ _ ?_; clear hK5 K5 hK3 K3
    apply wp_seq_k; intro K21 hK21
    refine wp_region_lit ?_
    refine vc_y hF rfl rfl (by decide) _ (y_move rfl rfl) (fun a hF => ?_)
    refine vc_y hF rfl rfl (by decide) _ (y_assign rfl rfl) (fun a hF => ?_)
    refine vc_y hF rfl rfl (by decide) _ (y_assign rfl rfl) (fun a hF => ?_)
    refine vc_nil ?_
    refine hK21 _ _ ?_; clear  hK21 K21
    apply wp_ret
    refine vc_ret2 hF Tryd.results69 rfl rfl ?_
    rw [hre]
    exact ⟨_, _, rfl, hO, hA2⟩

set_option maxRecDepth 100000 in
set_option maxHeartbeats 2000000 in
theorem rr_within (w0 w : World) (R G : List Seg) (hG : G ⊆ R) (A : Option Addr) (l : List Itm) (c : Nat) (hlc : l.length ≤ c) (hcm : l.length ≤ 100000) (hI : ∀ i ∈ l, i.OK) (hL : Rc w0 G A (cel Itm.cells l)) (k : List UInt8) (hk : k.length = 32) (h : Nat) (hh : h < 256) (hA : Hp w0 R w) : Calls Tryd.prog 72 #[.slice A l.length c, .agg (dc k).toArray, .int .i64 ((256 - h : Nat) : Int)] w fun e w' => ∃ v X, e = .returned v ∧ Buf 54 65 X v (offK k h l).length (cel Itm.cells (offK k h l)) ∧ Hp w0 (X :: R) w' := by
  have hdk : (dc k).length = 32 := by rw [dc_length, hk]
  have hJ : 255 - h < 256 := by omega
  refine vc_enter Tryd.func72 rfl Tryd.ntmps72 (Nat.le_of_ble_eq_true rfl) (fun a hF => ?_)
  apply wp_seq_k; intro K1 hK1
  refine wp_region_lit ?_
  refine vc_op rfl (fun K hK => hs_box (cs := dc k) hF rfl (by decide) rfl hA rfl (fun b1 w2 a hb1 hF hA3 => hK _ _ ?_))
  clear hK K
  replace hA3 : Hp w0 ([row b1 23 (dc k)] :: R) w2 := hA3
  refine vc_y hF rfl rfl (by decide) _ (y_assign rfl rfl) (fun a hF => ?_)
  refine vc_nil ?_
  refine hK1 _ _ ?_; clear  hK1 K1
  apply wp_seq_k; intro K2 hK2
  refine wp_region_lit ?_
  refine vc_y hF rfl rfl (by decide) _ (y_assign rfl rfl) (fun a hF => ?_)
  refine vc_nil ?_
  refine hK2 _ _ ?_; clear  hK2 K2
  apply wp_seq_k; intro K3 hK3
  apply wp_seq_k; intro K4 hK4
  refine wp_region_lit ?_
  refine vc_y hF rfl rfl (by decide) _ (y_assign rfl rfl) (fun a hF => ?_)
  refine vc_nil ?_
  refine hK4 _ _ ?_; clear  hK4 K4
  apply wp_block
  have hA4 : Hp w0 ([] :: [row b1 23 (dc k)] :: R) w2 := hA3
  refine vc_loop (G := Nat × List Itm) (fun gh a x => ∃ (lv : Value) (XL : Seg), gh.1 ≤ l.length ∧ gh.2.length ≤ gh.1 ∧ offK k h l = gh.2 ++ offK k h (l.drop gh.1) ∧ Buf 54 65 XL lv gh.2.length (cel Itm.cells gh.2) ∧ Fr 59 [(8, .int .i64 (gh.1 : Int)), (7, lv), (0, .slice A l.length c), (2, .int .i64 ((256 - h : Nat) : Int)), (4, .pointer (some ⟨b1, 0, none⟩))] a ∧ Hp w0 (XL :: [row b1 23 (dc k)] :: R) x) (fun gh => l.length - gh.1) (0, []) (⟨_, _, Nat.zero_le _, (Nat.zero_le _), (by show offK k h l = [] ++ offK k h (l.drop 0); rw [List.drop_zero]; rfl), (Buf.nil 54 65), hF.keep [8, 7, 0, 2, 4] rfl, hA4⟩) ?_
  clear hF
  rintro gh a w6 ⟨lv, XL, hn, hol, hof, hO, hF, hA5⟩
  obtain ⟨n, out⟩ := gh
  simp only at hn hol hof hO hF
  apply wp_seq_k; intro K5 hK5
  apply wp_seq_k; intro K6 hK6
  refine wp_region_lit ?_
  refine vc_y hF rfl rfl (by decide) _ (y_move rfl rfl) (fun a hF => ?_)
  refine vc_y hF rfl rfl (by decide) _ (y_move rfl rfl) (fun a hF => ?_)
  refine vc_y hF rfl rfl (by decide) _ (y_lenSl rfl Tryd.underlying55 rfl rfl) (fun a hF => ?_)
  refine vc_y hF rfl rfl (by decide) _ (y_cmp rfl rfl rfl rfl rfl) (fun a hF => ?_)
  refine vc_nil ?_
  refine hK6 _ _ ?_; clear  hK6 K6
  by_cases hlt : n < l.length
  · refine vc_trueB hF rfl (lss_t (by omega)) ?_
    obtain ⟨i, hi⟩ : ∃ i, l[n]? = some i := ⟨_, List.getElem?_eq_getElem hlt⟩
    have hiK := hI i (List.mem_of_getElem? hi)
    have hrb := (rs_at hI hi).2
    obtain ⟨b, q, hAd, hc⟩ := hL.ne (i := n * 65) (by omega)
    have hdr : l.drop n = i :: l.drop (n + 1) := by rw [List.drop_eq_getElem_cons hlt]; congr 1; exact Option.some.inj ((List.getElem?_eq_getElem hlt).symm.trans hi)
    apply wp_skip
    refine hK5 _ _ ?_; clear  hK5 K5
    apply wp_seq_k; intro K7 hK7
    apply wp_block
    apply wp_seq_k; intro K8 hK8
    refine wp_region_plan 13 [7,11,13] [0,1,2,3,4,5,6,8,9,10,7,11,12,13] (fun x => Hq w0 (XL :: [row b1 23 (dc k)] :: R) x) (by kernel_rfl) (by kernel_rfl) (Hq.drew (Hp.qp [XL, [row b1 23 (dc k)]] R [0, 1] hA5)) ?_
    have hA7 := Hl.drew hA5
    refine vp_y hF rfl rfl rfl rfl (by decide) _ (fun x hx => y_move rfl rfl) (fun a hF => ?_)
    refine vp_y hF rfl rfl rfl rfl (by decide) _ (fun x hx => y_move rfl rfl) (fun a hF => ?_)
    refine vp_y hF rfl rfl rfl rfl (by decide) _ (fun x hx => y_ixSl rfl Tryd.underlying55 sz54_s15 (by exact congrArg (fun A => some (Value.slice A l.length c)) hAd) rfl n rfl hlt rfl) (fun a hF => ?_)
    refine vp_y hF rfl rfl rfl rfl (by decide) _ (fun x hx => y_field rfl Tryd.underlying54 rfl sz23_s15 (by decide) rfl (rfl : (⟨_, _ + _, none⟩ : Addr) = ⟨b, q + n * 65 + 0, none⟩)) (fun a hF => ?_)
    refine vp_y hF rfl rfl rfl rfl (by decide) _ (fun x hx => y_ldRowC rfl (Hq.sub hx (List.Subset.trans hG (subC (subC (sub0))))) rfl hc (n * 65) (by have := (rs_at hI hi).2; omega) rfl (rs_key hI hi) rw23_s15) (fun a hF => ?_)
    refine vp_y hF rfl rfl rfl rfl (by decide) _ (fun x hx => y_move rfl rfl) (fun a hF => ?_)
    refine vp_y hF rfl rfl rfl rfl (by decide) _ (fun x hx => y_sub rfl rfl rfl (show IntKind.i64.wrap (((256 - h : Nat) : Int) - 1) = ((255 - h : Nat) : Int) by rw [IntWalk.i64_in _ (by omega)]; omega)) (fun a hF => ?_)
    refine vp_y hF rfl rfl rfl rfl (by decide) _ (fun x hx => y_ldRow (new := dc k) rfl hx rfl 1 rfl rw23_s15 (by rw [hdk]; exact Nat.le_refl _) (by rw [List.drop_zero]; exact List.take_of_length_le (by rw [hdk]; exact Nat.le_refl _))) (fun a hF => ?_)
    refine vp_y hF rfl rfl rfl rfl (by decide) _ (fun x hx => y_move rfl rfl) (fun a hF => ?_)
    refine vp_y hF rfl rfl rfl rfl (by decide) _ (fun x hx => y_sub rfl rfl rfl (show IntKind.i64.wrap (((256 - h : Nat) : Int) - 1) = ((255 - h : Nat) : Int) by rw [IntWalk.i64_in _ (by omega)]; omega)) (fun a hF => ?_)
    refine vp_l rfl rfl rfl (fun K hK => ws_call hF rfl (by decide) cl52_s15 rfl rfl ?_)
    with_reducible refine (sp_rbit w0 _ (XL :: [row b1 23 (dc k)] :: R) i.k (255 - h) hiK.k hJ hA7 ).mono ?_
    rintro e' w8 ⟨rfl, hA9⟩
    refine ⟨_, rfl, fun a hF => hK _ _ (fun _ => ?_) ?_⟩
    · exact Hp.qp [XL, [row b1 23 (dc k)]] R [0, 1] hA9
    clear hK K
    replace hA9 : Hp w0 (XL :: [row b1 23 (dc k)] :: R) w8 := hA9
    refine vp_l rfl rfl rfl (fun K hK => ws_call hF rfl (by decide) cl52_s15 rfl rfl ?_)
    with_reducible refine (sp_rbit w0 _ (XL :: [row b1 23 (dc k)] :: R) k (255 - h) hk hJ hA9 ).mono ?_
    rintro e' w10 ⟨rfl, hA11⟩
    refine ⟨_, rfl, fun a hF => hK _ _ (fun _ => ?_) ?_⟩
    · exact Hp.qp [XL, [row b1 23 (dc k)]] R [0, 1] hA11
    clear hK K
    replace hA11 : Hp w0 (XL :: [row b1 23 (dc k)] :: R) w10 := hA11
    refine vp_y hF rfl rfl rfl rfl (by decide) _ (fun x hx => y_cmp rfl rfl rfl rfl (cmp_ne _ _)) (fun a hF => ?_)
    refine vp_ly hF rfl rfl rfl rfl (by decide) _ (y_assign rfl rfl) (fun h => absurd h (by decide)) (fun a hF => ?_)
    refine plan_end ?_
    refine hK8 _ _ ?_; clear  hK8 K8
    apply wp_seq_k; intro K9 hK9
    apply wp_seq_k; intro K10 hK10
    refine wp_region_lit ?_
    refine vc_y hF rfl rfl (by decide) _ (y_assign rfl rfl) (fun a hF => ?_)
    refine vc_nil ?_
    refine hK10 _ _ ?_; clear  hK10 K10
    apply wp_block
    refine vc_loop (G := Nat × Bool) (fun g2 a x => g2.1 ≤ 255 - h ∧ (g2.2 = true → keyBit i.k (255 - h) ≠ keyBit k (255 - h) ∧ agree i.k k g2.1) ∧ (g2.2 = false → ¬ partsN i.k k = 255 - h) ∧ Fr 59 [(10, .int .i64 (g2.1 : Int)), (9, .bool g2.2), (0, .slice A l.length c), (2, .int .i64 ((256 - h : Nat) : Int)), (4, .pointer (some ⟨b1, 0, none⟩)), (8, .int .i64 (n : Int)), (7, lv)] a ∧ Hp w0 (XL :: [row b1 23 (dc k)] :: R) x) (fun g2 => 255 - h - g2.1) (0, decide (keyBit i.k (255 - h) ≠ keyBit k (255 - h))) (⟨Nat.zero_le _, (fun hd => ⟨of_decide_eq_true hd, fun j hj => absurd hj (Nat.not_lt_zero _)⟩), (fun hd hp => of_decide_eq_false hd (by rw [← hp]; exact partsN_ne (by omega))), hF.keep [10, 9, 0, 2, 4, 8, 7] rfl, hA11⟩) ?_
    clear hF
    rintro g2 a w13 ⟨hbJ, hyes, hno, hF, hA12⟩
    obtain ⟨bb, ok⟩ := g2
    simp only at hbJ hyes hno hF
    have hFn := hF
    cases ok
    · by_cases hlb : bb < 255 - h
      · apply wp_seq_k; intro K11 hK11
        apply wp_seq_k; intro K12 hK12
        refine wp_region_lit ?_
        refine vc_y hF rfl rfl (by decide) _ (y_move rfl rfl) (fun a hF => ?_)
        refine vc_y hF rfl rfl (by decide) _ (y_move rfl rfl) (fun a hF => ?_)
        refine vc_y hF rfl rfl (by decide) _ (y_sub rfl rfl rfl (show IntKind.i64.wrap (((256 - h : Nat) : Int) - 1) = ((255 - h : Nat) : Int) by rw [IntWalk.i64_in _ (by omega)]; omega)) (fun a hF => ?_)
        refine vc_y hF rfl rfl (by decide) _ (y_cmp rfl rfl rfl rfl (lss_t (by omega))) (fun a hF => ?_)
        refine vc_y hF rfl rfl (by decide) _ (y_move rfl rfl) (fun a hF => ?_)
        refine vc_yg hF rfl rfl rfl rfl rfl (by decide) _ (y_move rfl rfl) (fun a hF => ?_)
        refine vc_y hF rfl rfl (by decide) _ (y_pick rfl rfl rfl) (fun a hF => ?_)
        refine vc_nil ?_
        refine hK12 _ _ ?_; clear  hK12 K12
        refine vc_false hF rfl ?_
        apply wp_exit
        refine hK9 _ _ ?_; clear hK11 K11 hK9 K9
        apply wp_seq_k; intro K13 hK13
        refine wp_region_lit ?_
        refine vc_y hF rfl rfl (by decide) _ (y_move rfl rfl) (fun a hF => ?_)
        refine vc_nil ?_
        refine hK13 _ _ ?_; clear  hK13 K13
        refine vc_false hF rfl ?_
        apply wp_skip
        refine hK7 _ _ ?_; clear  hK7 K7
        refine wp_region_lit ?_
        refine vc_y hF rfl rfl (by decide) _ (y_move rfl rfl) (fun a hF => ?_)
        refine vc_y hF rfl rfl (by decide) _ (y_add rfl rfl rfl (IntWalk.i64_in _ (by omega))) (fun a hF => ?_)
        refine vc_y hF rfl rfl (by decide) _ (y_assign rfl rfl) (fun a hF => ?_)
        refine vc_nil ?_
        exact ⟨(n + 1, out), (by show l.length - (n + 1) < l.length - n; omega), _, _, (by show n + 1 ≤ l.length; omega), (by show out.length ≤ n + 1; omega), (by rw [hof, hdr, offK_cons_no (hno rfl)]), hO, hF.keep [8, 7, 0, 2, 4] rfl, hA12⟩
      · apply wp_seq_k; intro K14 hK14
        apply wp_seq_k; intro K15 hK15
        refine wp_region_lit ?_
        refine vc_y hF rfl rfl (by decide) _ (y_move rfl rfl) (fun a hF => ?_)
        refine vc_y hF rfl rfl (by decide) _ (y_move rfl rfl) (fun a hF => ?_)
        refine vc_y hF rfl rfl (by decide) _ (y_sub rfl rfl rfl (show IntKind.i64.wrap (((256 - h : Nat) : Int) - 1) = ((255 - h : Nat) : Int) by rw [IntWalk.i64_in _ (by omega)]; omega)) (fun a hF => ?_)
        refine vc_y hF rfl rfl (by decide) _ (y_cmp rfl rfl rfl rfl (lss_f (by omega))) (fun a hF => ?_)
        refine vc_y hF rfl rfl (by decide) _ (y_move rfl rfl) (fun a hF => ?_)
        refine vc_skip hF rfl rfl rfl rfl rfl rfl (by decide) (fun a hF => ?_)
        refine vc_y hF rfl rfl (by decide) _ (y_pick rfl rfl rfl) (fun a hF => ?_)
        refine vc_nil ?_
        refine hK15 _ _ ?_; clear  hK15 K15
        refine vc_false hF rfl ?_
        apply wp_exit
        refine hK9 _ _ ?_; clear hK14 K14 hK9 K9
        apply wp_seq_k; intro K16 hK16
        refine wp_region_lit ?_
        refine vc_y hF rfl rfl (by decide) _ (y_move rfl rfl) (fun a hF => ?_)
        refine vc_nil ?_
        refine hK16 _ _ ?_; clear  hK16 K16
        refine vc_false hF rfl ?_
        apply wp_skip
        refine hK7 _ _ ?_; clear  hK7 K7
        refine wp_region_lit ?_
        refine vc_y hF rfl rfl (by decide) _ (y_move rfl rfl) (fun a hF => ?_)
        refine vc_y hF rfl rfl (by decide) _ (y_add rfl rfl rfl (IntWalk.i64_in _ (by omega))) (fun a hF => ?_)
        refine vc_y hF rfl rfl (by decide) _ (y_assign rfl rfl) (fun a hF => ?_)
        refine vc_nil ?_
        exact ⟨(n + 1, out), (by show l.length - (n + 1) < l.length - n; omega), _, _, (by show n + 1 ≤ l.length; omega), (by show out.length ≤ n + 1; omega), (by rw [hof, hdr, offK_cons_no (hno rfl)]), hO, hF.keep [8, 7, 0, 2, 4] rfl, hA12⟩
    · obtain ⟨hdf, hag⟩ := hyes rfl
      by_cases hlb : bb < 255 - h
      · apply wp_seq_k; intro K17 hK17
        apply wp_seq_k; intro K18 hK18
        refine wp_region_lit ?_
        refine vc_y hF rfl rfl (by decide) _ (y_move rfl rfl) (fun a hF => ?_)
        refine vc_y hF rfl rfl (by decide) _ (y_move rfl rfl) (fun a hF => ?_)
        refine vc_y hF rfl rfl (by decide) _ (y_sub rfl rfl rfl (show IntKind.i64.wrap (((256 - h : Nat) : Int) - 1) = ((255 - h : Nat) : Int) by rw [IntWalk.i64_in _ (by omega)]; omega)) (fun a hF => ?_)
        refine vc_y hF rfl rfl (by decide) _ (y_cmp rfl rfl rfl rfl (lss_t (by omega))) (fun a hF => ?_)
        refine vc_y hF rfl rfl (by decide) _ (y_move rfl rfl) (fun a hF => ?_)
        refine vc_yg hF rfl rfl rfl rfl rfl (by decide) _ (y_move rfl rfl) (fun a hF => ?_)
        refine vc_y hF rfl rfl (by decide) _ (y_pick rfl rfl rfl) (fun a hF => ?_)
        refine vc_nil ?_
        refine hK18 _ _ ?_; clear  hK18 K18
        refine vc_true hF rfl ?_
        apply wp_skip
        refine hK17 _ _ ?_; clear  hK17 K17
        apply wp_seq_k; intro K19 hK19
        apply wp_block
        refine wp_region_plan 11 [6,9,11] [0,1,2,3,4,5,7,8,6,9,10,11] (fun x => Hq w0 (XL :: [row b1 23 (dc k)] :: R) x) (by kernel_rfl) (by kernel_rfl) (Hq.drew (Hp.qp [XL, [row b1 23 (dc k)]] R [0, 1] hA12)) ?_
        have hA14 := Hl.drew hA12
        refine vp_y hF rfl rfl rfl rfl (by decide) _ (fun x hx => y_move rfl rfl) (fun a hF => ?_)
        refine vp_y hF rfl rfl rfl rfl (by decide) _ (fun x hx => y_move rfl rfl) (fun a hF => ?_)
        refine vp_y hF rfl rfl rfl rfl (by decide) _ (fun x hx => y_ixSl rfl Tryd.underlying55 sz54_s15 (by exact congrArg (fun A => some (Value.slice A l.length c)) hAd) rfl n rfl hlt rfl) (fun a hF => ?_)
        refine vp_y hF rfl rfl rfl rfl (by decide) _ (fun x hx => y_field rfl Tryd.underlying54 rfl sz23_s15 (by decide) rfl (rfl : (⟨_, _ + _, none⟩ : Addr) = ⟨b, q + n * 65 + 0, none⟩)) (fun a hF => ?_)
        refine vp_y hF rfl rfl rfl rfl (by decide) _ (fun x hx => y_ldRowC rfl (Hq.sub hx (List.Subset.trans hG (subC (subC (sub0))))) rfl hc (n * 65) (by have := (rs_at hI hi).2; omega) rfl (rs_key hI hi) rw23_s15) (fun a hF => ?_)
        refine vp_y hF rfl rfl rfl rfl (by decide) _ (fun x hx => y_move rfl rfl) (fun a hF => ?_)
        refine vp_y hF rfl rfl rfl rfl (by decide) _ (fun x hx => y_ldRow (new := dc k) rfl hx rfl 1 rfl rw23_s15 (by rw [hdk]; exact Nat.le_refl _) (by rw [List.drop_zero]; exact List.take_of_length_le (by rw [hdk]; exact Nat.le_refl _))) (fun a hF => ?_)
        refine vp_y hF rfl rfl rfl rfl (by decide) _ (fun x hx => y_move rfl rfl) (fun a hF => ?_)
        refine vp_l rfl rfl rfl (fun K hK => ws_call hF rfl (by decide) cl52_s15 rfl rfl ?_)
        with_reducible refine (sp_rbit w0 _ (XL :: [row b1 23 (dc k)] :: R) i.k bb hiK.k (by omega) hA14 ).mono ?_
        rintro e' w15 ⟨rfl, hA16⟩
        refine ⟨_, rfl, fun a hF => hK _ _ (fun _ => ?_) ?_⟩
        · exact Hp.qp [XL, [row b1 23 (dc k)]] R [0, 1] hA16
        clear hK K
        replace hA16 : Hp w0 (XL :: [row b1 23 (dc k)] :: R) w15 := hA16
        refine vp_l rfl rfl rfl (fun K hK => ws_call hF rfl (by decide) cl52_s15 rfl rfl ?_)
        with_reducible refine (sp_rbit w0 _ (XL :: [row b1 23 (dc k)] :: R) k bb hk (by omega) hA16 ).mono ?_
        rintro e' w17 ⟨rfl, hA18⟩
        refine ⟨_, rfl, fun a hF => hK _ _ (fun _ => ?_) ?_⟩
        · exact Hp.qp [XL, [row b1 23 (dc k)]] R [0, 1] hA18
        clear hK K
        replace hA18 : Hp w0 (XL :: [row b1 23 (dc k)] :: R) w17 := hA18
        refine vp_y hF rfl rfl rfl rfl (by decide) _ (fun x hx => y_cmp rfl rfl rfl rfl (cmp_eq _ _)) (fun a hF => ?_)
        refine vp_ly hF rfl rfl rfl rfl (by decide) _ (y_assign rfl rfl) (fun h => absurd h (by decide)) (fun a hF => ?_)
        refine plan_end ?_
        refine hK19 _ _ ?_; clear  hK19 K19
        refine wp_region_lit ?_
        refine vc_y hF rfl rfl (by decide) _ (y_move rfl rfl) (fun a hF => ?_)
        refine vc_y hF rfl rfl (by decide) _ (y_add rfl rfl rfl (IntWalk.i64_in _ (by omega))) (fun a hF => ?_)
        refine vc_y hF rfl rfl (by decide) _ (y_assign rfl rfl) (fun a hF => ?_)
        refine vc_nil ?_
        exact ⟨(bb + 1, decide (keyBit i.k bb = keyBit k bb)), (by show 255 - h - (bb + 1) < 255 - h - bb; omega), (by show bb + 1 ≤ 255 - h; omega), (fun hd => ⟨hdf, hag.succ (of_decide_eq_true hd)⟩), (fun hd hp => of_decide_eq_false hd (partsN_agree i.k k bb (by omega))), hF.keep [10, 9, 0, 2, 4, 8, 7] rfl, hA18⟩
      · apply wp_seq_k; intro K20 hK20
        apply wp_seq_k; intro K21 hK21
        refine wp_region_lit ?_
        refine vc_y hF rfl rfl (by decide) _ (y_move rfl rfl) (fun a hF => ?_)
        refine vc_y hF rfl rfl (by decide) _ (y_move rfl rfl) (fun a hF => ?_)
        refine vc_y hF rfl rfl (by decide) _ (y_sub rfl rfl rfl (show IntKind.i64.wrap (((256 - h : Nat) : Int) - 1) = ((255 - h : Nat) : Int) by rw [IntWalk.i64_in _ (by omega)]; omega)) (fun a hF => ?_)
        refine vc_y hF rfl rfl (by decide) _ (y_cmp rfl rfl rfl rfl (lss_f (by omega))) (fun a hF => ?_)
        refine vc_y hF rfl rfl (by decide) _ (y_move rfl rfl) (fun a hF => ?_)
        refine vc_skip hF rfl rfl rfl rfl rfl rfl (by decide) (fun a hF => ?_)
        refine vc_y hF rfl rfl (by decide) _ (y_pick rfl rfl rfl) (fun a hF => ?_)
        refine vc_nil ?_
        refine hK21 _ _ ?_; clear  hK21 K21
        refine vc_false hF rfl ?_
        obtain rfl : bb = 255 - h := by omega
        have hpp : partsN i.k k = 255 - h := parts_dec hJ hag hdf
        apply wp_exit
        refine hK9 _ _ ?_; clear hK20 K20 hK9 K9
        apply wp_seq_k; intro K22 hK22
        refine wp_region_lit ?_
        refine vc_y hF rfl rfl (by decide) _ (y_move rfl rfl) (fun a hF => ?_)
        refine vc_nil ?_
        refine hK22 _ _ ?_; clear  hK22 K22
        refine vc_true hF rfl ?_
        refine wp_region_lit ?_
        refine vc_y hF rfl rfl (by decide) _ (y_move rfl rfl) (fun a hF => ?_)
        refine vc_y hF rfl rfl (by decide) _ (y_move rfl rfl) (fun a hF => ?_)
        refine vc_y hF rfl rfl (by decide) _ (y_move rfl rfl) (fun a hF => ?_)
        refine vc_y hF rfl rfl (by decide) _ (y_ixSl rfl Tryd.underlying55 sz54_s15 (by exact congrArg (fun A => some (Value.slice A l.length c)) hAd) rfl n rfl hlt rfl) (fun a hF => ?_)
        refine vc_y hF rfl rfl (by decide) _ (y_ldRowC rfl (Hq.sub hA12.q (List.Subset.trans hG (subC (subC (sub0))))) rfl hc (n * 65) (rs_at hI hi).2 rfl (rs_at hI hi).1 rw54_s15) (fun a hF => ?_)
        refine vc_op rfl (fun K hK => hs_bs (qs := #[(0, .agg i.cells.toArray)]) (cells := i.cells.toArray) hF rfl (by decide) rfl hA12 rfl (by exact rs_slice hiK) (fun b19 w20 a hb19 hF hA21 => hK _ _ ?_))
        clear hK K
        replace hA21 : Hp w0 ([row b19 54 i.cells] :: XL :: [row b1 23 (dc k)] :: R) w20 := hA21
        refine vc_op rfl (fun K hK => hs_append hF rfl (by decide) rfl hA21 1 rfl hO Tryd.underlying55 rt_elemI rfl rfl (Rc.srcC (W := i.cells) (m := 1) (size := 65) (R := [row b19 54 i.cells] :: XL :: [row b1 23 (dc k)] :: R) (Rc.ofRow (i := 0) (off := 0) rfl (by rw [List.drop_zero]; exact List.take_length ..)) hA21.q Tryd.underlying55 (by decide) (by rw [Itm.len hiK]) (Itm.one i)) (by omega) (by decide) (fun lv2 XL2 w22 a hO2 hF hA23 => hK _ _ ?_))
        clear hK K
        replace hA23 : Hp w0 ([row b19 54 i.cells] :: XL2 :: [row b1 23 (dc k)] :: R) w22 := hA23
        rw [← cel_snoc, show (out).length + 1 = (out ++ [i]).length from snoc_len _ _] at hO2
        refine vc_y hF rfl rfl (by decide) _ (y_assign rfl rfl) (fun a hF => ?_)
        refine vc_nil ?_
        refine hK7 _ _ ?_; clear  hK7 K7
        refine wp_region_lit ?_
        refine vc_y hF rfl rfl (by decide) _ (y_move rfl rfl) (fun a hF => ?_)
        refine vc_y hF rfl rfl (by decide) _ (y_add rfl rfl rfl (IntWalk.i64_in _ (by omega))) (fun a hF => ?_)
        refine vc_y hF rfl rfl (by decide) _ (y_assign rfl rfl) (fun a hF => ?_)
        refine vc_nil ?_
        have hA24 : Hp w0 (XL2 :: [row b1 23 (dc k)] :: R) w22 := Hp.sel [[row b19 54 i.cells], XL2, [row b1 23 (dc k)]] R [1, 2] [0] hA23 rfl
        exact ⟨(n + 1, out ++ [i]), (by show l.length - (n + 1) < l.length - n; omega), _, _, (by show n + 1 ≤ l.length; omega), (by simp only [List.length_append, List.length_cons, List.length_nil]; omega), (by rw [hof, hdr, offK_cons_yes hpp]; simp), hO2, hF.keep [8, 7, 0, 2, 4] rfl, hA24⟩
  · refine vc_falseB hF rfl (lss_f (by omega)) ?_
    obtain rfl : n = l.length := by omega
    rw [List.drop_length, offK_nil, List.append_nil] at hof
    apply wp_exit
    refine hK3 _ _ ?_; clear hK5 K5 hK3 K3
    apply wp_seq_k; intro K23 hK23
    refine wp_region_lit ?_
    refine vc_y hF rfl rfl (by decide) _ (y_move rfl rfl) (fun a hF => ?_)
    refine vc_y hF rfl rfl (by decide) _ (y_assign rfl rfl) (fun a hF => ?_)
    refine vc_nil ?_
    refine hK23 _ _ ?_; clear  hK23 K23
    apply wp_ret
    refine vc_ret1 hF Tryd.results72 rfl ?_
    have hA25 : Hp w0 (XL :: R) w6 := Hp.sel [XL, [row b1 23 (dc k)]] R [0] [1] hA5 rfl
    rw [hof]
    exact ⟨_, _, rfl, hO, hA25⟩

set_option maxRecDepth 100000 in
set_option maxHeartbeats 2000000 in
theorem rr_prove (w0 w : World) (R G : List Seg) (hG : G ⊆ R) (A : Option Addr) (l : List Itm) (c : Nat) (hlc : l.length ≤ c) (hcm : l.length ≤ 100000) (hI : ∀ i ∈ l, i.OK) (hL : Rc w0 G A (cel Itm.cells l)) (width : Int) (k : List UInt8) (hk : k.length = 32) (hA : Hp w0 R w) : Calls Tryd.prog 41 #[.int .i64 width, .slice A l.length c, .agg (dc k).toArray] w fun e w' => ∃ sv X, e = .returned (.agg ((prvP width l k 256).cells sv).toArray) ∧ Buf 23 32 X sv (prvP width l k 256).ss.length (digV (prvP width l k 256).ss) ∧ Hp w0 (X :: R) w' := by
  have hdk : (dc k).length = 32 := by rw [dc_length, hk]
  have hch := getCh_length hI k
  have hel : (Value.int .i64 (getCt l k) :: dc (getCh l k)).length = 33 := by rw [List.length_cons, dc_length, hch]
  have hnl := nbr_length width k l
  refine vc_enter Tryd.func41 rfl Tryd.ntmps41 (Nat.le_of_ble_eq_true rfl) (fun a hF => ?_)
  apply wp_seq_k; intro K1 hK1
  refine wp_region_lit ?_
  refine vc_op rfl (fun K hK => hs_box (cs := dc k) hF rfl (by decide) rfl hA rfl (fun b1 w2 a hb1 hF hA3 => hK _ _ ?_))
  clear hK K
  replace hA3 : Hp w0 ([row b1 23 (dc k)] :: R) w2 := hA3
  refine vc_op rfl (fun K hK => hs_alloc hF rfl (by decide) rfl hA3 zrPrf (fun b4 w5 a hb4 hF hA6 => hK _ _ ?_))
  clear hK K
  replace hA6 : Hp w0 ([row b4 28 (prf0.cells (.slice none 0 0))] :: [row b1 23 (dc k)] :: R) w5 := hA6
  refine vc_nil ?_
  refine hK1 _ _ ?_; clear  hK1 K1
  apply wp_seq_k; intro K2 hK2
  refine wp_region_lit ?_
  refine vc_y hF rfl rfl (by decide) _ (y_move rfl rfl) (fun a hF => ?_)
  refine vc_op rfl (fun K hK => ws_call hF rfl (by decide) cl47_s15 rfl rfl ?_)
  with_reducible refine (rs_rempties w0 _ ([row b4 28 (prf0.cells (.slice none 0 0))] :: [row b1 23 (dc k)] :: R) width hA6 ).mono ?_
  rintro e' w7 ⟨AE, cE, ZE, rfl, hRE, hA8⟩
  refine ⟨_, rfl, fun a hF => hK _ _ ?_⟩
  clear hK K
  replace hA8 : Hp w0 (ZE :: [row b4 28 (prf0.cells (.slice none 0 0))] :: [row b1 23 (dc k)] :: R) w7 := hA8
  refine vc_y hF rfl rfl (by decide) _ (y_assign rfl rfl) (fun a hF => ?_)
  refine vc_nil ?_
  refine hK2 _ _ ?_; clear  hK2 K2
  apply wp_seq_k; intro K3 hK3
  refine wp_region_lit ?_
  refine vc_op rfl (fun K hK => hs_alloc hF rfl (by decide) rfl hA8 zrPrf (fun b9 w10 a hb9 hF hA11 => hK _ _ ?_))
  clear hK K
  replace hA11 : Hp w0 ([row b9 28 (prf0.cells (.slice none 0 0))] :: ZE :: [row b4 28 (prf0.cells (.slice none 0 0))] :: [row b1 23 (dc k)] :: R) w10 := hA11
  refine vc_nil ?_
  refine hK3 _ _ ?_; clear  hK3 K3
  apply wp_seq_k; intro K4 hK4
  refine wp_region_lit ?_
  refine vc_y hF rfl rfl (by decide) _ (y_move rfl rfl) (fun a hF => ?_)
  refine vc_y hF rfl rfl (by decide) _ (y_ldRow (new := dc k) rfl hA11.q rfl 3 rfl rw23_s15 (by rw [hdk]; exact Nat.le_refl _) (by rw [List.drop_zero]; exact List.take_of_length_le (by rw [hdk]; exact Nat.le_refl _))) (fun a hF => ?_)
  refine vc_op rfl (fun K hK => ws_call hF rfl (by decide) cl71_s15 rfl rfl ?_)
  with_reducible refine (rr_get w0 _ ([row b9 28 (prf0.cells (.slice none 0 0))] :: ZE :: [row b4 28 (prf0.cells (.slice none 0 0))] :: [row b1 23 (dc k)] :: R) G (List.Subset.trans hG (subC (subC (subC (subC (sub0)))))) A l c hlc hcm hI hL k hk hA11 ).mono ?_
  rintro e' w12 ⟨rfl, hA13⟩
  refine ⟨_, rfl, fun a hF => hK _ _ ?_⟩
  clear hK K
  replace hA13 : Hp w0 ([row b9 28 (prf0.cells (.slice none 0 0))] :: ZE :: [row b4 28 (prf0.cells (.slice none 0 0))] :: [row b1 23 (dc k)] :: R) w12 := hA13
  refine vc_y hF rfl rfl (by decide) _ (y_move rfl rfl) (fun a hF => ?_)
  refine vc_y hF rfl rfl (by decide) _ (y_extract (v := .agg (.int .i64 (getCt l k) :: dc (getCh l k)).toArray) rfl rfl rfl) (fun a hF => ?_)
  refine vc_y hF rfl rfl (by decide) _ (y_extract (v := .bool ((getL l k).isSome)) rfl rfl rfl) (fun a hF => ?_)
  refine vc_y hF rfl rfl (by decide) _ (y_field rfl Tryd.underlying28 rfl sz25_s15 (by decide) rfl (rfl : (⟨_, 0 + _, none⟩ : Addr) = ⟨_, 1, none⟩)) (fun a hF => ?_)
  refine vc_op rfl (fun K hK => hs_storeRow (new := .int .i64 (getCt l k) :: dc (getCh l k)) hF rfl rfl hA13 rfl rfl 0 rfl (by rw [hel, Prf.c_len prf0_ok]; decide) (ent_one _ _) (by rw [hel]; exact sz25_s15) (fun w14 hA15 => hK _ _ ?_))
  clear hK K
  replace hA15 : Hp w0 ([row b9 28 (splice (prf0.cells (.slice none 0 0)) 1 (.int .i64 (getCt l k) :: dc (getCh l k)))] :: ZE :: [row b4 28 (prf0.cells (.slice none 0 0))] :: [row b1 23 (dc k)] :: R) w14 := hA15
  have hA16 : Hp w0 ([row b9 28 (Prf.cells ⟨false, getCt l k, getCh l k, List.replicate 32 0, []⟩ (.slice none 0 0))] :: ZE :: [row b4 28 (prf0.cells (.slice none 0 0))] :: [row b1 23 (dc k)] :: R) w14 := by
    rw [← show splice (prf0.cells (.slice none 0 0)) 1 (.int .i64 (getCt l k) :: dc (getCh l k)) = Prf.cells ⟨false, getCt l k, getCh l k, List.replicate 32 0, []⟩ (.slice none 0 0) from (Prf.c_putE prf0_ok _ hch)]
    exact hA15
  refine vc_y hF rfl rfl (by decide) _ (y_field rfl Tryd.underlying28 rfl sz4_s15 (by decide) rfl (rfl : (⟨_, 0 + _, none⟩ : Addr) = ⟨_, 0, none⟩)) (fun a hF => ?_)
  refine vc_op rfl (fun K hK => hs_store1 hF rfl rfl hA16 rfl rfl 0 rfl (by rw [Prf.c_len ⟨hch, List.length_replicate .., (fun d hd => by cases hd), Nat.zero_le _⟩]; decide) rfl sz4_s15 (fun w17 hA18 => hK _ _ ?_))
  clear hK K
  replace hA18 : Hp w0 ([row b9 28 ((Prf.cells ⟨false, getCt l k, getCh l k, List.replicate 32 0, []⟩ (.slice none 0 0)).set 0 (.bool (getL l k).isSome))] :: ZE :: [row b4 28 (prf0.cells (.slice none 0 0))] :: [row b1 23 (dc k)] :: R) w17 := hA18
  have hA19 : Hp w0 ([row b9 28 ((prvP width l k 0).cells (.slice none 0 0))] :: ZE :: [row b4 28 (prf0.cells (.slice none 0 0))] :: [row b1 23 (dc k)] :: R) w17 := by
    rw [← show (Prf.cells ⟨false, getCt l k, getCh l k, List.replicate 32 0, []⟩ (.slice none 0 0)).set 0 (.bool (getL l k).isSome) = (prvP width l k 0).cells (.slice none 0 0) from rfl]
    exact hA18
  refine vc_nil ?_
  refine hK4 _ _ ?_; clear  hK4 K4
  apply wp_seq_k; intro K5 hK5
  apply wp_seq_k; intro K6 hK6
  refine wp_region_lit ?_
  refine vc_y hF rfl rfl (by decide) _ (y_assign rfl rfl) (fun a hF => ?_)
  refine vc_nil ?_
  refine hK6 _ _ ?_; clear  hK6 K6
  apply wp_block
  have hA20 : Hp w0 ([row b9 28 ((prvP width l k 0).cells (.slice none 0 0))] :: [row b4 28 (prf0.cells (.slice none 0 0))] :: ZE :: [row b1 23 (dc k)] :: R) w17 := Hp.ord [[row b9 28 ((prvP width l k 0).cells (.slice none 0 0))], ZE, [row b4 28 (prf0.cells (.slice none 0 0))], [row b1 23 (dc k)]] R [0, 2, 1, 3] hA19 rfl
  have hA21 : Hp w0 ([row b9 28 ((prvP width l k 0).cells (.slice none 0 0))] :: [] :: [row b4 28 (prf0.cells (.slice none 0 0))] :: ZE :: [row b1 23 (dc k)] :: R) w17 := hA20
  refine vc_loop (G := Nat) (fun h a x => ∃ (sv : Value) (XS : Seg), h ≤ 256 ∧ Buf 23 32 XS sv (prvP width l k h).ss.length (digV (prvP width l k h).ss) ∧ Fr 66 [(9, .int .i64 (h : Int)), (0, .int .i64 width), (1, .slice A l.length c), (5, .pointer (some ⟨b1, 0, none⟩)), (6, .pointer (some ⟨b4, 0, none⟩)), (7, .slice AE 257 cE), (8, .pointer (some ⟨b9, 0, none⟩))] a ∧ Hp w0 ([row b9 28 ((prvP width l k h).cells sv)] :: XS :: [row b4 28 (prf0.cells (.slice none 0 0))] :: ZE :: [row b1 23 (dc k)] :: R) x) (fun h => 256 - h) 0 (⟨_, _, Nat.zero_le _, (Buf.nil 23 32), hF.keep [9, 0, 1, 5, 6, 7, 8] rfl, hA21⟩) ?_
  clear hF
  rintro h a w23 ⟨sv, XS, hh, hS, hF, hA22⟩
  have hpk : (prvP width l k h).OK := prvP_ok hI k hh
  apply wp_seq_k; intro K7 hK7
  apply wp_seq_k; intro K8 hK8
  refine wp_region_lit ?_
  refine vc_y hF rfl rfl (by decide) _ (y_move rfl rfl) (fun a hF => ?_)
  refine vc_y hF rfl rfl (by decide) _ (y_cmp rfl rfl rfl rfl rfl) (fun a hF => ?_)
  refine vc_nil ?_
  refine hK8 _ _ ?_; clear  hK8 K8
  by_cases hlt : h < 256
  · refine vc_trueB hF rfl (lss_t (by omega)) ?_
    apply wp_skip
    refine hK7 _ _ ?_; clear  hK7 K7
    apply wp_seq_k; intro K9 hK9
    apply wp_block
    apply wp_seq_k; intro K10 hK10
    refine wp_region_lit ?_
    refine vc_y hF rfl rfl (by decide) _ (y_move rfl rfl) (fun a hF => ?_)
    refine vc_y hF rfl rfl (by decide) _ (y_ldRow (new := dc k) rfl hA22.q rfl 4 rfl rw23_s15 (by rw [hdk]; exact Nat.le_refl _) (by rw [List.drop_zero]; exact List.take_of_length_le (by rw [hdk]; exact Nat.le_refl _))) (fun a hF => ?_)
    refine vc_y hF rfl rfl (by decide) _ (y_move rfl rfl) (fun a hF => ?_)
    refine vc_y hF rfl rfl (by decide) _ (y_sub rfl rfl rfl (show IntKind.i64.wrap (256 - (h : Int)) = ((256 - h : Nat) : Int) by rw [IntWalk.i64_in _ (by omega)]; omega)) (fun a hF => ?_)
    refine vc_op rfl (fun K hK => ws_call hF rfl (by decide) cl72_s15 rfl rfl ?_)
    with_reducible refine (rr_within w0 _ ([row b9 28 ((prvP width l k h).cells sv)] :: XS :: [row b4 28 (prf0.cells (.slice none 0 0))] :: ZE :: [row b1 23 (dc k)] :: R) G (List.Subset.trans hG (subC (subC (subC (subC (subC (sub0))))))) A l c hlc hcm hI hL k hk h hlt hA22 ).mono ?_
    rintro e' w24 ⟨nv, NX, rfl, hNX, hA25⟩
    refine ⟨_, rfl, fun a hF => hK _ _ ?_⟩
    clear hK K
    replace hA25 : Hp w0 (NX :: [row b9 28 ((prvP width l k h).cells sv)] :: XS :: [row b4 28 (prf0.cells (.slice none 0 0))] :: ZE :: [row b1 23 (dc k)] :: R) w24 := hA25
    have hFn := hF
    obtain ⟨AN, cN, rfl, hcN, hRN⟩ := hNX.rc (w0 := w0) (R := [NX]) (List.mem_cons_self ..)
    have hF := hFn
    refine vc_y hF rfl rfl (by decide) _ (y_assign rfl rfl) (fun a hF => ?_)
    refine vc_nil ?_
    refine hK10 _ _ ?_; clear  hK10 K10
    apply wp_seq_k; intro K11 hK11
    apply wp_seq_k; intro K12 hK12
    have hnlen := offK_len k h l
    by_cases h0 : offK k h l = []
    · have hlz : (offK k h l).length = 0 := by rw [h0]; rfl
      refine wp_region_lit ?_
      refine vc_y hF rfl rfl (by decide) _ (y_move rfl rfl) (fun a hF => ?_)
      refine vc_y hF rfl rfl (by decide) _ (y_lenSl rfl Tryd.underlying55 rfl rfl) (fun a hF => ?_)
      refine vc_y hF rfl rfl (by decide) _ (y_cmp rfl rfl rfl rfl (eql_t (by omega))) (fun a hF => ?_)
      refine vc_nil ?_
      refine hK12 _ _ ?_; clear  hK12 K12
      refine vc_true hF rfl ?_
      apply wp_exit
      refine hK9 _ _ ?_; clear hK11 K11 hK9 K9
      refine wp_region_lit ?_
      refine vc_y hF rfl rfl (by decide) _ (y_move rfl rfl) (fun a hF => ?_)
      refine vc_y hF rfl rfl (by decide) _ (y_add rfl rfl rfl (IntWalk.i64_in _ (by omega))) (fun a hF => ?_)
      refine vc_y hF rfl rfl (by decide) _ (y_assign rfl rfl) (fun a hF => ?_)
      refine vc_nil ?_
      have heq : nbr width k l h = emptyL width h := by unfold nbr; rw [h0, subE_nil]
      have hps := prv_same heq
      rw [← hps] at hS
      have hA26 : Hp w0 (NX :: [row b9 28 ((prvP width l k (h + 1)).cells sv)] :: XS :: [row b4 28 (prf0.cells (.slice none 0 0))] :: ZE :: [row b1 23 (dc k)] :: R) w24 := by
        rw [← show (prvP width l k h).cells sv = (prvP width l k (h + 1)).cells sv from (by rw [hps])]
        exact hA25
      have hA27 : Hp w0 ([row b9 28 ((prvP width l k (h + 1)).cells sv)] :: XS :: [row b4 28 (prf0.cells (.slice none 0 0))] :: ZE :: [row b1 23 (dc k)] :: R) w24 := Hp.sel [NX, [row b9 28 ((prvP width l k (h + 1)).cells sv)], XS, [row b4 28 (prf0.cells (.slice none 0 0))], ZE, [row b1 23 (dc k)]] R [1, 2, 3, 4, 5] [0] hA26 rfl
      exact ⟨h + 1, by omega, _, _, by omega, hS, hF.keep [9, 0, 1, 5, 6, 7, 8] rfl, hA27⟩
    · have hpos : 0 < (offK k h l).length := List.length_pos_iff.2 h0
      refine wp_region_lit ?_
      refine vc_y hF rfl rfl (by decide) _ (y_move rfl rfl) (fun a hF => ?_)
      refine vc_y hF rfl rfl (by decide) _ (y_lenSl rfl Tryd.underlying55 rfl rfl) (fun a hF => ?_)
      refine vc_y hF rfl rfl (by decide) _ (y_cmp rfl rfl rfl rfl (eql_f (by omega))) (fun a hF => ?_)
      refine vc_nil ?_
      refine hK12 _ _ ?_; clear  hK12 K12
      refine vc_false hF rfl ?_
      have hdd : (dc (nbr width k l h)).length = 32 := by rw [dc_length, hnl]
      have hdle := emptyL_length width
      obtain ⟨herd, hele⟩ := digs_rd (emptyL width) 257 h (fun i _ => hdle i) (by omega)
      obtain ⟨be_, qe, hAE, hce⟩ := hRE.ne (i := h * 32) (by omega)
      apply wp_skip
      refine hK11 _ _ ?_; clear  hK11 K11
      apply wp_seq_k; intro K13 hK13
      refine wp_region_lit ?_
      refine vc_y hF rfl rfl (by decide) _ (y_move rfl rfl) (fun a hF => ?_)
      refine vc_y hF rfl rfl (by decide) _ (y_move rfl rfl) (fun a hF => ?_)
      refine vc_y hF rfl rfl (by decide) _ (y_move rfl rfl) (fun a hF => ?_)
      refine vc_y hF rfl rfl (by decide) _ (y_sub rfl rfl rfl (show IntKind.i64.wrap (256 - (h : Int)) = ((256 - h : Nat) : Int) by rw [IntWalk.i64_in _ (by omega)]; omega)) (fun a hF => ?_)
      refine vc_y hF rfl rfl (by decide) _ (y_move rfl rfl) (fun a hF => ?_)
      refine vc_op rfl (fun K hK => ws_call hF rfl (by decide) cl58_s15 rfl rfl ?_)
      with_reducible refine (rs_sub w0 (ZE :: [NX]) width AE cE (hRE.mono (sub1 (List.mem_cons_self ..))) h hh _ (NX :: [row b9 28 ((prvP width l k h).cells sv)] :: XS :: [row b4 28 (prf0.cells (.slice none 0 0))] :: ZE :: [row b1 23 (dc k)] :: R) (sub_cons2 (List.mem_cons_of_mem _ (List.mem_cons_of_mem _ (List.mem_cons_of_mem _ (List.mem_cons_of_mem _ ((List.mem_cons_self ..)))))) (sub1 ((List.mem_cons_self ..)))) AN (offK k h l) cN hcN (by omega) (offK_ok hI) (hRN.mono (sub1 (List.mem_cons_of_mem _ (List.mem_cons_self ..)))) hA25 ).mono ?_
      rintro e' w28 ⟨rfl, hA29⟩
      refine ⟨_, rfl, fun a hF => hK _ _ ?_⟩
      clear hK K
      replace hA29 : Hp w0 (NX :: [row b9 28 ((prvP width l k h).cells sv)] :: XS :: [row b4 28 (prf0.cells (.slice none 0 0))] :: ZE :: [row b1 23 (dc k)] :: R) w28 := hA29
      rw [show subE width h (offK k h l) = nbr width k l h from rfl] at hF
      refine vc_op rfl (fun K hK => hs_alloc hF rfl (by decide) rfl hA29 (zr23_s15) (fun b30 w31 a hb30 hF hA32 => hK _ _ ?_))
      clear hK K
      replace hA32 : Hp w0 ([row b30 23 (dc (List.replicate 32 0))] :: NX :: [row b9 28 ((prvP width l k h).cells sv)] :: XS :: [row b4 28 (prf0.cells (.slice none 0 0))] :: ZE :: [row b1 23 (dc k)] :: R) w31 := hA32
      refine vc_op rfl (fun K hK => hs_storeAll (new := dc (nbr width k l h)) hF rfl rfl hA32 rfl rfl 0 rfl (by rw [hdd]; rfl) (dc_one _) sz23_s15 (fun w33 hA34 => hK _ _ ?_))
      clear hK K
      replace hA34 : Hp w0 ([row b30 23 (dc (nbr width k l h))] :: NX :: [row b9 28 ((prvP width l k h).cells sv)] :: XS :: [row b4 28 (prf0.cells (.slice none 0 0))] :: ZE :: [row b1 23 (dc k)] :: R) w33 := hA34
      refine vc_nil ?_
      refine hK13 _ _ ?_; clear  hK13 K13
      apply wp_seq_k; intro K14 hK14
      by_cases heq : nbr width k l h = emptyL width h
      · refine wp_region_plan 5 [5] [0,1,2,3,4,5] (fun x => Hq w0 ([row b30 23 (dc (nbr width k l h))] :: NX :: [row b9 28 ((prvP width l k h).cells sv)] :: XS :: [row b4 28 (prf0.cells (.slice none 0 0))] :: ZE :: [row b1 23 (dc k)] :: R) x) (by kernel_rfl) (by kernel_rfl) (Hq.drew (Hp.qp [[row b30 23 (dc (nbr width k l h))], NX, [row b9 28 ((prvP width l k h).cells sv)], XS, [row b4 28 (prf0.cells (.slice none 0 0))], ZE, [row b1 23 (dc k)]] R [0, 1, 2, 3, 4, 5, 6] hA34)) ?_
        have hA35 := Hl.drew hA34
        refine vp_y hF rfl rfl rfl rfl (by decide) _ (fun x hx => y_ldRow (new := dc (nbr width k l h)) rfl hx rfl 0 rfl rw23_s15 (by rw [hdd]; exact Nat.le_refl _) (by rw [List.drop_zero]; exact List.take_of_length_le (by rw [hdd]; exact Nat.le_refl _))) (fun a hF => ?_)
        refine vp_y hF rfl rfl rfl rfl (by decide) _ (fun x hx => y_move rfl rfl) (fun a hF => ?_)
        refine vp_y hF rfl rfl rfl rfl (by decide) _ (fun x hx => y_move rfl rfl) (fun a hF => ?_)
        refine vp_y hF rfl rfl rfl rfl (by decide) _ (fun x hx => y_ixSl rfl Tryd.underlying26 sz23_s15 (by exact congrArg (fun A => some (Value.slice A 257 cE)) hAE) rfl h rfl (by omega) rfl) (fun a hF => ?_)
        refine vp_y hF rfl rfl rfl rfl (by decide) _ (fun x hx => y_ldRowC rfl (Hq.sub hx (sub1 (List.mem_cons_of_mem _ (List.mem_cons_of_mem _ (List.mem_cons_of_mem _ (List.mem_cons_of_mem _ (List.mem_cons_of_mem _ ((List.mem_cons_self ..))))))))) rfl hce (h * 32) hele rfl herd rw23_s15) (fun a hF => ?_)
        refine vp_ly hF rfl rfl rfl rfl (by decide) _ (y_neB rfl Tryd.underlying23 Tryd.underlying5 sz5_s15 (by kernel_rfl) rfl rfl (hnl h) (hdle h) (show (!decide (nbr width k l h = emptyL width h)) = false by rw [decide_eq_true heq]; rfl)) (fun h => absurd h (by decide)) (fun a hF => ?_)
        refine plan_end ?_
        refine hK14 _ _ ?_; clear  hK14 K14
        refine vc_false hF rfl ?_
        apply wp_skip
        refine hK9 _ _ ?_; clear  hK9 K9
        refine wp_region_lit ?_
        refine vc_y hF rfl rfl (by decide) _ (y_move rfl rfl) (fun a hF => ?_)
        refine vc_y hF rfl rfl (by decide) _ (y_add rfl rfl rfl (IntWalk.i64_in _ (by omega))) (fun a hF => ?_)
        refine vc_y hF rfl rfl (by decide) _ (y_assign rfl rfl) (fun a hF => ?_)
        refine vc_nil ?_
        have hps := prv_same heq
        rw [← hps] at hS
        have hA36 : Hp w0 ([row b30 23 (dc (nbr width k l h))] :: NX :: [row b9 28 ((prvP width l k (h + 1)).cells sv)] :: XS :: [row b4 28 (prf0.cells (.slice none 0 0))] :: ZE :: [row b1 23 (dc k)] :: R) w33.drew := by
          rw [← show (prvP width l k h).cells sv = (prvP width l k (h + 1)).cells sv from (by rw [hps])]
          exact hA35
        have hA37 : Hp w0 ([row b9 28 ((prvP width l k (h + 1)).cells sv)] :: XS :: [row b4 28 (prf0.cells (.slice none 0 0))] :: ZE :: [row b1 23 (dc k)] :: R) w33.drew := Hp.sel [[row b30 23 (dc (nbr width k l h))], NX, [row b9 28 ((prvP width l k (h + 1)).cells sv)], XS, [row b4 28 (prf0.cells (.slice none 0 0))], ZE, [row b1 23 (dc k)]] R [2, 3, 4, 5, 6] [0, 1] hA36 rfl
        exact ⟨h + 1, by omega, _, _, by omega, hS, hF.keep [9, 0, 1, 5, 6, 7, 8] rfl, hA37⟩
      · refine wp_region_plan 5 [5] [0,1,2,3,4,5] (fun x => Hq w0 ([row b30 23 (dc (nbr width k l h))] :: NX :: [row b9 28 ((prvP width l k h).cells sv)] :: XS :: [row b4 28 (prf0.cells (.slice none 0 0))] :: ZE :: [row b1 23 (dc k)] :: R) x) (by kernel_rfl) (by kernel_rfl) (Hq.drew (Hp.qp [[row b30 23 (dc (nbr width k l h))], NX, [row b9 28 ((prvP width l k h).cells sv)], XS, [row b4 28 (prf0.cells (.slice none 0 0))], ZE, [row b1 23 (dc k)]] R [0, 1, 2, 3, 4, 5, 6] hA34)) ?_
        have hA38 := Hl.drew hA34
        refine vp_y hF rfl rfl rfl rfl (by decide) _ (fun x hx => y_ldRow (new := dc (nbr width k l h)) rfl hx rfl 0 rfl rw23_s15 (by rw [hdd]; exact Nat.le_refl _) (by rw [List.drop_zero]; exact List.take_of_length_le (by rw [hdd]; exact Nat.le_refl _))) (fun a hF => ?_)
        refine vp_y hF rfl rfl rfl rfl (by decide) _ (fun x hx => y_move rfl rfl) (fun a hF => ?_)
        refine vp_y hF rfl rfl rfl rfl (by decide) _ (fun x hx => y_move rfl rfl) (fun a hF => ?_)
        refine vp_y hF rfl rfl rfl rfl (by decide) _ (fun x hx => y_ixSl rfl Tryd.underlying26 sz23_s15 (by exact congrArg (fun A => some (Value.slice A 257 cE)) hAE) rfl h rfl (by omega) rfl) (fun a hF => ?_)
        refine vp_y hF rfl rfl rfl rfl (by decide) _ (fun x hx => y_ldRowC rfl (Hq.sub hx (sub1 (List.mem_cons_of_mem _ (List.mem_cons_of_mem _ (List.mem_cons_of_mem _ (List.mem_cons_of_mem _ (List.mem_cons_of_mem _ ((List.mem_cons_self ..))))))))) rfl hce (h * 32) hele rfl herd rw23_s15) (fun a hF => ?_)
        refine vp_ly hF rfl rfl rfl rfl (by decide) _ (y_neB rfl Tryd.underlying23 Tryd.underlying5 sz5_s15 (by kernel_rfl) rfl rfl (hnl h) (hdle h) (show (!decide (nbr width k l h = emptyL width h)) = true by rw [decide_eq_false heq]; rfl)) (fun h => absurd h (by decide)) (fun a hF => ?_)
        refine plan_end ?_
        refine hK14 _ _ ?_; clear  hK14 K14
        refine vc_true hF rfl ?_
        apply wp_seq_k; intro K15 hK15
        refine wp_region_plan 13 [13] [0,1,2,3,4,5,6,7,8,9,10,11,12,13] (fun x => Hq w0 ([row b30 23 (dc (nbr width k l h))] :: NX :: [row b9 28 ((prvP width l k h).cells sv)] :: XS :: [row b4 28 (prf0.cells (.slice none 0 0))] :: ZE :: [row b1 23 (dc k)] :: R) x) (by kernel_rfl) (by kernel_rfl) (Hq.drew (Hp.qp [[row b30 23 (dc (nbr width k l h))], NX, [row b9 28 ((prvP width l k h).cells sv)], XS, [row b4 28 (prf0.cells (.slice none 0 0))], ZE, [row b1 23 (dc k)]] R [0, 1, 2, 3, 4, 5, 6] hA38)) ?_
        have hA39 := Hl.drew hA38
        refine vp_y hF rfl rfl rfl rfl (by decide) _ (fun x hx => y_move rfl rfl) (fun a hF => ?_)
        refine vp_y hF rfl rfl rfl rfl (by decide) _ (fun x hx => y_quo rfl rfl rfl (by decide) (quo8 h hlt)) (fun a hF => ?_)
        refine vp_y hF rfl rfl rfl rfl (by decide) _ (fun x hx => y_move rfl rfl) (fun a hF => ?_)
        refine vp_y hF rfl rfl rfl rfl (by decide) _ (fun x hx => y_quo rfl rfl rfl (by decide) (quo8 h hlt)) (fun a hF => ?_)
        refine vp_y hF rfl rfl rfl rfl (by decide) _ (fun x hx => y_field rfl Tryd.underlying28 rfl sz22_s15 (by decide) rfl (rfl : (⟨_, 0 + _, none⟩ : Addr) = ⟨_, 34, none⟩)) (fun a hF => ?_)
        refine vp_y hF rfl rfl rfl rfl (by decide) _ (fun x hx => y_ixArr rfl Tryd.underlying22 sz5_s15 rfl rfl (h / 8) rfl (by omega) (ad2 _ _ _) (rfl : (none : Option Nat) = none)) (fun a hF => ?_)
        refine vp_y hF rfl rfl rfl rfl (by decide) _ (fun x hx => y_ld rfl hx rfl 2 rfl (Prf.c_bit hpk (by omega)) nr5_s15) (fun a hF => ?_)
        refine vp_y hF rfl rfl rfl rfl (by decide) _ (fun x hx => y_move rfl rfl) (fun a hF => ?_)
        refine vp_y hF rfl rfl rfl rfl (by decide) _ (fun x hx => y_rem rfl rfl rfl (by decide) (rem8 h)) (fun a hF => ?_)
        refine vp_y hF rfl rfl rfl rfl (by decide) _ (fun x hx => y_shl rfl rfl rfl (by omega) (shl8_bit h)) (fun a hF => ?_)
        refine vp_y hF rfl rfl rfl rfl (by decide) _ (fun x hx => y_add rfl rfl rfl (pByte_step _ _ hlt).2) (fun a hF => ?_)
        refine vp_y hF rfl rfl rfl rfl (by decide) _ (fun x hx => y_field rfl Tryd.underlying28 rfl sz22_s15 (by decide) rfl (rfl : (⟨_, 0 + _, none⟩ : Addr) = ⟨_, 34, none⟩)) (fun a hF => ?_)
        refine vp_y hF rfl rfl rfl rfl (by decide) _ (fun x hx => y_ixArr rfl Tryd.underlying22 sz5_s15 rfl rfl (h / 8) rfl (by omega) (ad2 _ _ _) (rfl : (none : Option Nat) = none)) (fun a hF => ?_)
        refine vp_l rfl rfl rfl (fun K hK => hs_store1 hF rfl rfl hA39 rfl rfl 2 rfl (by rw [Prf.c_len hpk]; omega) rfl sz5_s15 (fun w40 hA41 => hK _ _ (fun h => absurd h (by decide)) ?_))
        clear hK K
        replace hA41 : Hp w0 ([row b30 23 (dc (nbr width k l h))] :: NX :: [row b9 28 (((prvP width l k h).cells sv).set (34 + h / 8) (.int .u8 ((UInt8.ofNat ((bAt (prvP width l k h).bs (h / 8)).toNat + 2 ^ (h % 8))).toNat : Int)))] :: XS :: [row b4 28 (prf0.cells (.slice none 0 0))] :: ZE :: [row b1 23 (dc k)] :: R) w40 := hA41
        have hA42 : Hp w0 ([row b30 23 (dc (nbr width k l h))] :: NX :: [row b9 28 (Prf.cells ⟨(prvP width l k h).pr, (prvP width l k h).ct, (prvP width l k h).ch, (prvP width l k h).bs.set (h / 8) (UInt8.ofNat ((bAt (prvP width l k h).bs (h / 8)).toNat + 2 ^ (h % 8))), (prvP width l k h).ss⟩ sv)] :: XS :: [row b4 28 (prf0.cells (.slice none 0 0))] :: ZE :: [row b1 23 (dc k)] :: R) w40 := by
          rw [← show ((prvP width l k h).cells sv).set (34 + h / 8) (.int .u8 ((UInt8.ofNat ((bAt (prvP width l k h).bs (h / 8)).toNat + 2 ^ (h % 8))).toNat : Int)) = Prf.cells ⟨(prvP width l k h).pr, (prvP width l k h).ct, (prvP width l k h).ch, (prvP width l k h).bs.set (h / 8) (UInt8.ofNat ((bAt (prvP width l k h).bs (h / 8)).toNat + 2 ^ (h % 8))), (prvP width l k h).ss⟩ sv from (Prf.c_putB hpk (by omega) _)]
          exact hA41
        refine plan_end ?_
        refine hK15 _ _ ?_; clear  hK15 K15
        have hpb : Prf.OK (⟨(prvP width l k h).pr, (prvP width l k h).ct, (prvP width l k h).ch, (prvP width l k h).bs.set (h / 8) (UInt8.ofNat ((bAt (prvP width l k h).bs (h / 8)).toNat + 2 ^ (h % 8))), (prvP width l k h).ss⟩ : Prf) := ⟨hpk.ch, by show (List.set _ _ _).length = 32; rw [List.length_set]; exact hpk.bs, hpk.ss, hpk.few⟩
        refine wp_region_lit ?_
        refine vc_y hF rfl rfl (by decide) _ (y_field rfl Tryd.underlying28 rfl sz26_s15 (by decide) rfl (rfl : (⟨_, 0 + _, none⟩ : Addr) = ⟨_, 66, none⟩)) (fun a hF => ?_)
        refine vc_y hF rfl rfl (by decide) _ (y_ld rfl hA42.q rfl 2 rfl (Prf.c_sums hpb) nr26_s15) (fun a hF => ?_)
        refine vc_y hF rfl rfl (by decide) _ (y_ldRow (new := dc (nbr width k l h)) rfl hA42.q rfl 0 rfl rw23_s15 (by rw [hdd]; exact Nat.le_refl _) (by rw [List.drop_zero]; exact List.take_of_length_le (by rw [hdd]; exact Nat.le_refl _))) (fun a hF => ?_)
        refine vc_op rfl (fun K hK => hs_bs (qs := #[(0, .agg (dc (nbr width k l h)).toArray)]) (cells := (dc (nbr width k l h)).toArray) hF rfl (by decide) rfl hA42 rfl (by exact t7_build (hnl h)) (fun b43 w44 a hb43 hF hA45 => hK _ _ ?_))
        clear hK K
        replace hA45 : Hp w0 ([row b43 23 (dc (nbr width k l h))] :: [row b30 23 (dc (nbr width k l h))] :: NX :: [row b9 28 (Prf.cells ⟨(prvP width l k h).pr, (prvP width l k h).ct, (prvP width l k h).ch, (prvP width l k h).bs.set (h / 8) (UInt8.ofNat ((bAt (prvP width l k h).bs (h / 8)).toNat + 2 ^ (h % 8))), (prvP width l k h).ss⟩ sv)] :: XS :: [row b4 28 (prf0.cells (.slice none 0 0))] :: ZE :: [row b1 23 (dc k)] :: R) w44 := hA45
        refine vc_op rfl (fun K hK => hs_append hF rfl (by decide) rfl hA45 4 rfl hS Tryd.underlying26 t7_elem rfl rfl (Rc.srcC (W := dc (nbr width k l h)) (m := 1) (size := 32) (R := [row b43 23 (dc (nbr width k l h))] :: [row b30 23 (dc (nbr width k l h))] :: NX :: [row b9 28 (Prf.cells ⟨(prvP width l k h).pr, (prvP width l k h).ct, (prvP width l k h).ch, (prvP width l k h).bs.set (h / 8) (UInt8.ofNat ((bAt (prvP width l k h).bs (h / 8)).toNat + 2 ^ (h % 8))), (prvP width l k h).ss⟩ sv)] :: XS :: [row b4 28 (prf0.cells (.slice none 0 0))] :: ZE :: [row b1 23 (dc k)] :: R) (Rc.ofRow (i := 0) (off := 0) rfl (by rw [List.drop_zero]; exact List.take_length ..)) hA45.q Tryd.underlying26 (by decide) (by rw [dc_length, (hnl h)]) (dc_one _)) (by have := hpk.few; omega) (by decide) (fun sv2 XS2 w46 a hS2 hF hA47 => hK _ _ ?_))
        clear hK K
        replace hA47 : Hp w0 ([row b43 23 (dc (nbr width k l h))] :: [row b30 23 (dc (nbr width k l h))] :: NX :: [row b9 28 (Prf.cells ⟨(prvP width l k h).pr, (prvP width l k h).ct, (prvP width l k h).ch, (prvP width l k h).bs.set (h / 8) (UInt8.ofNat ((bAt (prvP width l k h).bs (h / 8)).toNat + 2 ^ (h % 8))), (prvP width l k h).ss⟩ sv)] :: XS2 :: [row b4 28 (prf0.cells (.slice none 0 0))] :: ZE :: [row b1 23 (dc k)] :: R) w46 := hA47
        refine vc_y hF rfl rfl (by decide) _ (y_field rfl Tryd.underlying28 rfl sz26_s15 (by decide) rfl (rfl : (⟨_, 0 + _, none⟩ : Addr) = ⟨_, 66, none⟩)) (fun a hF => ?_)
        refine vc_op rfl (fun K hK => hs_store1 hF rfl rfl hA47 rfl rfl 3 rfl (by rw [Prf.c_len hpb]; decide) hS2.one sz26_s15 (fun w48 hA49 => hK _ _ ?_))
        clear hK K
        replace hA49 : Hp w0 ([row b43 23 (dc (nbr width k l h))] :: [row b30 23 (dc (nbr width k l h))] :: NX :: [row b9 28 ((Prf.cells ⟨(prvP width l k h).pr, (prvP width l k h).ct, (prvP width l k h).ch, (prvP width l k h).bs.set (h / 8) (UInt8.ofNat ((bAt (prvP width l k h).bs (h / 8)).toNat + 2 ^ (h % 8))), (prvP width l k h).ss⟩ sv).set 66 sv2)] :: XS2 :: [row b4 28 (prf0.cells (.slice none 0 0))] :: ZE :: [row b1 23 (dc k)] :: R) w48 := hA49
        have hA50 : Hp w0 ([row b43 23 (dc (nbr width k l h))] :: [row b30 23 (dc (nbr width k l h))] :: NX :: [row b9 28 ((prvP width l k (h + 1)).cells sv2)] :: XS2 :: [row b4 28 (prf0.cells (.slice none 0 0))] :: ZE :: [row b1 23 (dc k)] :: R) w48 := by
          rw [← show (Prf.cells ⟨(prvP width l k h).pr, (prvP width l k h).ct, (prvP width l k h).ch, (prvP width l k h).bs.set (h / 8) (UInt8.ofNat ((bAt (prvP width l k h).bs (h / 8)).toNat + 2 ^ (h % 8))), (prvP width l k h).ss⟩ sv).set 66 sv2 = (prvP width l k (h + 1)).cells sv2 from ((Prf.c_set hpb sv2).trans (by rw [prv_next heq]; rfl))]
          exact hA49
        rw [← digV_snoc, ← prv_sums heq, show (prvP width l k h).ss.length + 1 = (prvP width l k (h + 1)).ss.length by rw [prv_sums heq, List.length_append]; rfl] at hS2
        refine vc_nil ?_
        refine hK9 _ _ ?_; clear  hK9 K9
        refine wp_region_lit ?_
        refine vc_y hF rfl rfl (by decide) _ (y_move rfl rfl) (fun a hF => ?_)
        refine vc_y hF rfl rfl (by decide) _ (y_add rfl rfl rfl (IntWalk.i64_in _ (by omega))) (fun a hF => ?_)
        refine vc_y hF rfl rfl (by decide) _ (y_assign rfl rfl) (fun a hF => ?_)
        refine vc_nil ?_
        have hA51 : Hp w0 ([row b9 28 ((prvP width l k (h + 1)).cells sv2)] :: XS2 :: [row b4 28 (prf0.cells (.slice none 0 0))] :: ZE :: [row b1 23 (dc k)] :: R) w48 := Hp.sel [[row b43 23 (dc (nbr width k l h))], [row b30 23 (dc (nbr width k l h))], NX, [row b9 28 ((prvP width l k (h + 1)).cells sv2)], XS2, [row b4 28 (prf0.cells (.slice none 0 0))], ZE, [row b1 23 (dc k)]] R [3, 4, 5, 6, 7] [0, 1, 2] hA50 rfl
        exact ⟨h + 1, by omega, _, _, by omega, hS2, hF.keep [9, 0, 1, 5, 6, 7, 8] rfl, hA51⟩
  · refine vc_falseB hF rfl (lss_f (by omega)) ?_
    obtain rfl : h = 256 := by omega
    apply wp_exit
    refine hK5 _ _ ?_; clear hK7 K7 hK5 K5
    apply wp_seq_k; intro K16 hK16
    refine wp_region_lit ?_
    refine vc_y hF rfl rfl (by decide) _ (y_ldRow rfl hA22.q rfl 0 rfl rw28_s15 (by rw [Prf.c_len hpk]; decide) (Prf.c_all hpk)) (fun a hF => ?_)
    refine vc_op rfl (fun K hK => hs_storeAll (new := (prvP width l k 256).cells sv) hF rfl rfl hA22 rfl rfl 2 rfl (by rw [Prf.c_len hpk, Prf.c_len prf0_ok]) (Prf.c_one hS.one) (by rw [Prf.c_len prf0_ok]; exact sz28_s15) (fun w52 hA53 => hK _ _ ?_))
    clear hK K
    replace hA53 : Hp w0 ([row b9 28 ((prvP width l k 256).cells sv)] :: XS :: [row b4 28 ((prvP width l k 256).cells sv)] :: ZE :: [row b1 23 (dc k)] :: R) w52 := hA53
    refine vc_nil ?_
    refine hK16 _ _ ?_; clear  hK16 K16
    apply wp_ret
    refine vc_retR hF Tryd.results41 hA53.q rfl 2 rfl (by rw [Prf.c_len hpk]; exact rw28_s15) ?_
    have hA54 : Hp w0 (XS :: R) w52 := Hp.sel [[row b9 28 ((prvP width l k 256).cells sv)], XS, [row b4 28 ((prvP width l k 256).cells sv)], ZE, [row b1 23 (dc k)]] R [1] [0, 2, 3, 4] hA53 rfl
    exact ⟨sv, XS, rfl, hS, hA54⟩

set_option maxRecDepth 100000 in
set_option maxHeartbeats 2000000 in
theorem rr_fewI (w0 w : World) (R : List Seg) (A : Option Addr) (n m c : Nat) (hn : n ≤ c) (hA : Hp w0 R w) : Calls Tryd.prog 32 #[.slice A n c, .int .i64 ((m : Nat) : Int)] w fun e w' => e = .returned (.slice A (min n m) c) ∧ Hp w0 R w' := by
  refine vc_enter Tryd.func32 rfl Tryd.ntmps32 (Nat.le_of_ble_eq_true rfl) (fun a hF => ?_)
  apply wp_seq_k; intro K1 hK1
  refine wp_region_lit ?_
  refine vc_y hF rfl rfl (by decide) _ (y_assign rfl rfl) (fun a hF => ?_)
  refine vc_nil ?_
  refine hK1 _ _ ?_; clear  hK1 K1
  apply wp_seq_k; intro K2 hK2
  apply wp_seq_k; intro K3 hK3
  by_cases hgt : m < n
  · refine wp_region_lit ?_
    refine vc_y hF rfl rfl (by decide) _ (y_move rfl rfl) (fun a hF => ?_)
    refine vc_y hF rfl rfl (by decide) _ (y_lenSl rfl Tryd.underlying55 rfl rfl) (fun a hF => ?_)
    refine vc_y hF rfl rfl (by decide) _ (y_move rfl rfl) (fun a hF => ?_)
    refine vc_y hF rfl rfl (by decide) _ (y_cmp rfl rfl rfl rfl (gtr_t (by omega))) (fun a hF => ?_)
    refine vc_nil ?_
    refine hK3 _ _ ?_; clear  hK3 K3
    refine vc_true hF rfl ?_
    apply wp_seq_k; intro K4 hK4
    refine wp_region_lit ?_
    refine vc_y hF rfl rfl (by decide) _ (y_move rfl rfl) (fun a hF => ?_)
    refine vc_y hF rfl rfl (by decide) _ (y_move rfl rfl) (fun a hF => ?_)
    refine vc_y hF rfl rfl (by decide) _ (y_slice rfl Tryd.underlying55 sz54_s15 rfl (.none 0) (.some rfl rfl) (Nat.zero_le _) (show m ≤ c by omega) slice_to) (fun a hF => ?_)
    refine vc_y hF rfl rfl (by decide) _ (y_assign rfl rfl) (fun a hF => ?_)
    refine vc_nil ?_
    refine hK4 _ _ ?_; clear  hK4 K4
    apply wp_ret
    simp only [Exit.then]
    refine vc_ret1 hF Tryd.results32 rfl ?_
    exact ⟨by rw [show min n m = m by omega], hA⟩
  · refine wp_region_lit ?_
    refine vc_y hF rfl rfl (by decide) _ (y_move rfl rfl) (fun a hF => ?_)
    refine vc_y hF rfl rfl (by decide) _ (y_lenSl rfl Tryd.underlying55 rfl rfl) (fun a hF => ?_)
    refine vc_y hF rfl rfl (by decide) _ (y_move rfl rfl) (fun a hF => ?_)
    refine vc_y hF rfl rfl (by decide) _ (y_cmp rfl rfl rfl rfl (gtr_f (by omega))) (fun a hF => ?_)
    refine vc_nil ?_
    refine hK3 _ _ ?_; clear  hK3 K3
    refine vc_false hF rfl ?_
    apply wp_skip
    refine hK2 _ _ ?_; clear  hK2 K2
    apply wp_seq_k; intro K5 hK5
    refine wp_region_lit ?_
    refine vc_y hF rfl rfl (by decide) _ (y_move rfl rfl) (fun a hF => ?_)
    refine vc_y hF rfl rfl (by decide) _ (y_assign rfl rfl) (fun a hF => ?_)
    refine vc_nil ?_
    refine hK5 _ _ ?_; clear  hK5 K5
    apply wp_ret
    refine vc_ret1 hF Tryd.results32 rfl ?_
    exact ⟨by rw [show min n m = n by omega], hA⟩

set_option maxRecDepth 100000 in
set_option maxHeartbeats 2000000 in
theorem rr_fewD (w0 w : World) (R : List Seg) (A : Option Addr) (n m c : Nat) (hn : n ≤ c) (hA : Hp w0 R w) : Calls Tryd.prog 38 #[.slice A n c, .int .i64 ((m : Nat) : Int)] w fun e w' => e = .returned (.slice A (min n m) c) ∧ Hp w0 R w' := by
  refine vc_enter Tryd.func38 rfl Tryd.ntmps38 (Nat.le_of_ble_eq_true rfl) (fun a hF => ?_)
  apply wp_seq_k; intro K1 hK1
  refine wp_region_lit ?_
  refine vc_y hF rfl rfl (by decide) _ (y_assign rfl rfl) (fun a hF => ?_)
  refine vc_nil ?_
  refine hK1 _ _ ?_; clear  hK1 K1
  apply wp_seq_k; intro K2 hK2
  apply wp_seq_k; intro K3 hK3
  by_cases hgt : m < n
  · refine wp_region_lit ?_
    refine vc_y hF rfl rfl (by decide) _ (y_move rfl rfl) (fun a hF => ?_)
    refine vc_y hF rfl rfl (by decide) _ (y_lenSl rfl Tryd.underlying26 rfl rfl) (fun a hF => ?_)
    refine vc_y hF rfl rfl (by decide) _ (y_move rfl rfl) (fun a hF => ?_)
    refine vc_y hF rfl rfl (by decide) _ (y_cmp rfl rfl rfl rfl (gtr_t (by omega))) (fun a hF => ?_)
    refine vc_nil ?_
    refine hK3 _ _ ?_; clear  hK3 K3
    refine vc_true hF rfl ?_
    apply wp_seq_k; intro K4 hK4
    refine wp_region_lit ?_
    refine vc_y hF rfl rfl (by decide) _ (y_move rfl rfl) (fun a hF => ?_)
    refine vc_y hF rfl rfl (by decide) _ (y_move rfl rfl) (fun a hF => ?_)
    refine vc_y hF rfl rfl (by decide) _ (y_slice rfl Tryd.underlying26 sz23_s15 rfl (.none 0) (.some rfl rfl) (Nat.zero_le _) (show m ≤ c by omega) slice_to) (fun a hF => ?_)
    refine vc_y hF rfl rfl (by decide) _ (y_assign rfl rfl) (fun a hF => ?_)
    refine vc_nil ?_
    refine hK4 _ _ ?_; clear  hK4 K4
    apply wp_ret
    simp only [Exit.then]
    refine vc_ret1 hF Tryd.results38 rfl ?_
    exact ⟨by rw [show min n m = m by omega], hA⟩
  · refine wp_region_lit ?_
    refine vc_y hF rfl rfl (by decide) _ (y_move rfl rfl) (fun a hF => ?_)
    refine vc_y hF rfl rfl (by decide) _ (y_lenSl rfl Tryd.underlying26 rfl rfl) (fun a hF => ?_)
    refine vc_y hF rfl rfl (by decide) _ (y_move rfl rfl) (fun a hF => ?_)
    refine vc_y hF rfl rfl (by decide) _ (y_cmp rfl rfl rfl rfl (gtr_f (by omega))) (fun a hF => ?_)
    refine vc_nil ?_
    refine hK3 _ _ ?_; clear  hK3 K3
    refine vc_false hF rfl ?_
    apply wp_skip
    refine hK2 _ _ ?_; clear  hK2 K2
    apply wp_seq_k; intro K5 hK5
    refine wp_region_lit ?_
    refine vc_y hF rfl rfl (by decide) _ (y_move rfl rfl) (fun a hF => ?_)
    refine vc_y hF rfl rfl (by decide) _ (y_assign rfl rfl) (fun a hF => ?_)
    refine vc_nil ?_
    refine hK5 _ _ ?_; clear  hK5 K5
    apply wp_ret
    refine vc_ret1 hF Tryd.results38 rfl ?_
    exact ⟨by rw [show min n m = n by omega], hA⟩

set_option maxRecDepth 100000 in
set_option maxHeartbeats 2000000 in
theorem rr_keysof (w0 w : World) (R G : List Seg) (hG : G ⊆ R) (A : Option Addr) (l : List Itm) (c : Nat) (hlc : l.length ≤ c) (hcm : l.length ≤ 100000) (hI : ∀ i ∈ l, i.OK) (hL : Rc w0 G A (cel Itm.cells l)) (hA : Hp w0 R w) : Calls Tryd.prog 39 #[.slice A l.length c] w fun e w' => ∃ v X, e = .returned v ∧ Buf 23 32 X v l.length (digV (l.map (·.k))) ∧ Hp w0 (X :: R) w' := by
  refine vc_enter Tryd.func39 rfl Tryd.ntmps39 (Nat.le_of_ble_eq_true rfl) (fun a hF => ?_)
  apply wp_seq_k; intro K1 hK1
  refine wp_region_lit ?_
  refine vc_y hF rfl rfl (by decide) _ (y_assign rfl rfl) (fun a hF => ?_)
  refine vc_nil ?_
  refine hK1 _ _ ?_; clear  hK1 K1
  apply wp_seq_k; intro K2 hK2
  refine wp_region_lit ?_
  refine vc_y hF rfl rfl (by decide) _ (y_assign rfl rfl) (fun a hF => ?_)
  refine vc_nil ?_
  refine hK2 _ _ ?_; clear  hK2 K2
  apply wp_seq_k; intro K3 hK3
  apply wp_seq_k; intro K4 hK4
  refine wp_region_lit ?_
  refine vc_y hF rfl rfl (by decide) _ (y_assign rfl rfl) (fun a hF => ?_)
  refine vc_nil ?_
  refine hK4 _ _ ?_; clear  hK4 K4
  apply wp_block
  have hA1 : Hp w0 ([] :: R) w := hA
  refine vc_loop (G := Nat) (fun n a x => ∃ (lv : Value) (XL : Seg), n ≤ l.length ∧ Buf 23 32 XL lv n (digV ((l.take n).map (·.k))) ∧ Fr 20 [(4, .int .i64 (n : Int)), (3, lv), (0, .slice A l.length c)] a ∧ Hp w0 (XL :: R) x) (fun n => l.length - n) 0 (⟨_, _, Nat.zero_le _, (Buf.nil 23 32), hF.keep [4, 3, 0] rfl, hA1⟩) ?_
  clear hF
  rintro n a w3 ⟨lv, XL, hn, hO, hF, hA2⟩
  apply wp_seq_k; intro K5 hK5
  apply wp_seq_k; intro K6 hK6
  refine wp_region_lit ?_
  refine vc_y hF rfl rfl (by decide) _ (y_move rfl rfl) (fun a hF => ?_)
  refine vc_y hF rfl rfl (by decide) _ (y_move rfl rfl) (fun a hF => ?_)
  refine vc_y hF rfl rfl (by decide) _ (y_lenSl rfl Tryd.underlying55 rfl rfl) (fun a hF => ?_)
  refine vc_y hF rfl rfl (by decide) _ (y_cmp rfl rfl rfl rfl rfl) (fun a hF => ?_)
  refine vc_nil ?_
  refine hK6 _ _ ?_; clear  hK6 K6
  by_cases hlt : n < l.length
  · refine vc_trueB hF rfl (lss_t (by omega)) ?_
    obtain ⟨i, hi⟩ : ∃ i, l[n]? = some i := ⟨_, List.getElem?_eq_getElem hlt⟩
    have hiK := hI i (List.mem_of_getElem? hi)
    have hrb := (rs_at hI hi).2
    obtain ⟨b, q, hAd, hc⟩ := hL.ne (i := n * 65) (by omega)
    apply wp_skip
    refine hK5 _ _ ?_; clear  hK5 K5
    apply wp_seq_k; intro K7 hK7
    apply wp_block
    refine wp_region_lit ?_
    refine vc_y hF rfl rfl (by decide) _ (y_move rfl rfl) (fun a hF => ?_)
    refine vc_y hF rfl rfl (by decide) _ (y_move rfl rfl) (fun a hF => ?_)
    refine vc_y hF rfl rfl (by decide) _ (y_move rfl rfl) (fun a hF => ?_)
    refine vc_y hF rfl rfl (by decide) _ (y_ixSl rfl Tryd.underlying55 sz54_s15 (by exact congrArg (fun A => some (Value.slice A l.length c)) hAd) rfl n rfl hlt rfl) (fun a hF => ?_)
    refine vc_y hF rfl rfl (by decide) _ (y_field rfl Tryd.underlying54 rfl sz23_s15 (by decide) rfl (rfl : (⟨_, _ + _, none⟩ : Addr) = ⟨b, q + n * 65 + 0, none⟩)) (fun a hF => ?_)
    refine vc_y hF rfl rfl (by decide) _ (y_ldRowC rfl (Hq.sub hA2.q (List.Subset.trans hG (subC (sub0)))) rfl hc (n * 65) (by have := (rs_at hI hi).2; omega) rfl (rs_key hI hi) rw23_s15) (fun a hF => ?_)
    refine vc_op rfl (fun K hK => hs_bs (qs := #[(0, .agg (dc i.k).toArray)]) (cells := (dc i.k).toArray) hF rfl (by decide) rfl hA2 rfl (by exact t7_build hiK.k) (fun b4 w5 a hb4 hF hA6 => hK _ _ ?_))
    clear hK K
    replace hA6 : Hp w0 ([row b4 23 (dc i.k)] :: XL :: R) w5 := hA6
    refine vc_op rfl (fun K hK => hs_append hF rfl (by decide) rfl hA6 1 rfl hO Tryd.underlying26 t7_elem rfl rfl (Rc.srcC (W := dc i.k) (m := 1) (size := 32) (R := [row b4 23 (dc i.k)] :: XL :: R) (Rc.ofRow (i := 0) (off := 0) rfl (by rw [List.drop_zero]; exact List.take_length ..)) hA6.q Tryd.underlying26 (by decide) (by rw [dc_length, hiK.k]) (dc_one _)) (by omega) (by decide) (fun lv2 XL2 w7 a hO2 hF hA8 => hK _ _ ?_))
    clear hK K
    replace hA8 : Hp w0 ([row b4 23 (dc i.k)] :: XL2 :: R) w7 := hA8
    refine vc_y hF rfl rfl (by decide) _ (y_assign rfl rfl) (fun a hF => ?_)
    refine vc_nil ?_
    refine hK7 _ _ ?_; clear  hK7 K7
    refine wp_region_lit ?_
    refine vc_y hF rfl rfl (by decide) _ (y_move rfl rfl) (fun a hF => ?_)
    refine vc_y hF rfl rfl (by decide) _ (y_add rfl rfl rfl (IntWalk.i64_in _ (by omega))) (fun a hF => ?_)
    refine vc_y hF rfl rfl (by decide) _ (y_assign rfl rfl) (fun a hF => ?_)
    refine vc_nil ?_
    have htk : (l.take (n + 1)).map (·.k) = (l.take n).map (·.k) ++ [i.k] := by rw [List.take_add_one, hi]; simp
    rw [← digV_snoc, ← htk] at hO2
    have hA9 : Hp w0 (XL2 :: R) w7 := Hp.sel [[row b4 23 (dc i.k)], XL2] R [1] [0] hA8 rfl
    exact ⟨n + 1, by omega, _, _, by omega, hO2, hF.keep [4, 3, 0] rfl, hA9⟩
  · refine vc_falseB hF rfl (lss_f (by omega)) ?_
    obtain rfl : n = l.length := by omega
    rw [List.take_length] at hO
    apply wp_exit
    refine hK3 _ _ ?_; clear hK5 K5 hK3 K3
    apply wp_seq_k; intro K8 hK8
    refine wp_region_lit ?_
    refine vc_y hF rfl rfl (by decide) _ (y_move rfl rfl) (fun a hF => ?_)
    refine vc_y hF rfl rfl (by decide) _ (y_assign rfl rfl) (fun a hF => ?_)
    refine vc_nil ?_
    refine hK8 _ _ ?_; clear  hK8 K8
    apply wp_ret
    refine vc_ret1 hF Tryd.results39 rfl ?_
    exact ⟨_, _, rfl, hO, hA2⟩

theorem results_ctt {P : Program} {w w0 : World} {L : List Dk.Row} {fn : Func} {t s u : Tmp} {ty : TypeId} (h : fn.results = #[.cell u ty, .tmp t, .tmp s]) {tmps : Array Value} (hA : At w0 L w) {g : Nat} (hx : tmps.getD u undef = .pointer (some ⟨g, 0, none⟩))
    (k : Nat) {te : TypeId} {cs : List Value} (hk : L[k]? = some (g, te, cs)) (hr : isRow P ty cs.length = true) : (results fn tmps).run P w = .ok (.tuple #[.agg cs.toArray, tmps.getD t undef, tmps.getD s undef]) w := by
  obtain ⟨d, hu, hd, hi⟩ := isRow_spec hr
  have h1 := run_loadVar_mid (P := P) w g 0 ty cs d (by simpa using hA.range hk 0 cs.length) hu hd hi
  have hx' : tmps[u]?.getD undef = .pointer (some ⟨g, 0, none⟩) := by simpa using hx
  simp [results, h, hx', h1, asAddr]
theorem vc_retCTT {P : Program} {w w0 : World} {R : List Seg} {n : Nat} {F : List (Nat × Value)} {a : Act} {fn : Func} {RR : Ending → World → Prop} {t s u : Tmp} {ty te : TypeId} {g : Nat} {cs : List Value} {T : Seg} {v x : Value} (hF : Fr n F a) (hr : fn.results = #[.cell u ty, .tmp t, .tmp s]) (hA : Hq w0 R w) (hl2 : Dk.look F u = some (.pointer (some ⟨g, 0, none⟩))) (hl : Dk.look F t = some v) (hl3 : Dk.look F s = some x)
    (k : Nat) (hk : nth R k = some (row g te cs :: T)) (hrow : isRow P ty cs.length = true) (h : RR (.returned (.tuple #[.agg cs.toArray, v, x])) w) : bodyPost P fn RR .ret a w :=
  bodyPost_ret (results_ctt hr (At.start1 (hA.rowAt hk)) (hF.at hl2) 0 rfl hrow) hF.defers (by rw [hF.at hl, hF.at hl3]; exact h)

set_option maxRecDepth 100000 in
set_option maxHeartbeats 2000000 in
theorem rr_tree (w0 w : World) (R G : List Seg) (hG : G ⊆ R) (A : Option Addr) (l : List Itm) (n c : Nat) (hln : l.length = n) (hlc : n ≤ c) (hI : ∀ i ∈ l, i.OK) (hL : Rc w0 G A (cel Itm.cells l)) (hT : Tab w0) (hA : Hp w0 R w) : Calls Tryd.prog 37 #[.slice A n c] w fun e w' => ∃ top sl rv TX RX, e = .returned (.tuple #[.agg ([top, sl] : List Value).toArray, rv, .bool true]) ∧ TV w0 (TX :: G) (bldS [] (l.take 24)).2 top sl ∧ Buf 54 65 RX rv (bldS [] (l.take 24)).2.length (cel Itm.cells (bldS [] (l.take 24)).2) ∧ Hp w0 (TX :: RX :: R) w' := by
  have hl24 : (l.take 24).length = min n 24 := by rw [List.length_take, hln]; omega
  have hI2 : ∀ i ∈ l.take 24, i.OK := fun i hi => hI i (List.mem_of_mem_take hi)
  have hL2 := rs_take 24 hI hL
  refine vc_enter Tryd.func37 rfl Tryd.ntmps37 (Nat.le_of_ble_eq_true rfl) (fun a hF => ?_)
  apply wp_seq_k; intro K1 hK1
  refine wp_region_lit ?_
  refine vc_op rfl (fun K hK => hs_alloc hF rfl (by decide) rfl hA (zr45_s15) (fun b1 w2 a hb1 hF hA3 => hK _ _ ?_))
  clear hK K
  replace hA3 : Hp w0 ([row b1 45 [.pointer none, .slice none 0 0]] :: R) w2 := hA3
  refine vc_y hF rfl rfl (by decide) _ (y_assign rfl rfl) (fun a hF => ?_)
  refine vc_y hF rfl rfl (by decide) _ (y_assign rfl rfl) (fun a hF => ?_)
  refine vc_nil ?_
  refine hK1 _ _ ?_; clear  hK1 K1
  apply wp_seq_k; intro K2 hK2
  refine wp_region_lit ?_
  refine vc_y hF rfl rfl (by decide) _ (y_move rfl rfl) (fun a hF => ?_)
  refine vc_op rfl (fun K hK => ws_call hF rfl (by decide) cl32_s15 rfl rfl ?_)
  with_reducible refine ((show Calls Tryd.prog 32 #[.slice A n c, .int .i64 24] _ _ from rr_fewI w0 _ ([row b1 45 [.pointer none, .slice none 0 0]] :: R) A n 24 c (by omega) hA3) ).mono ?_
  rintro e' w4 ⟨rfl, hA5⟩
  refine ⟨_, rfl, fun a hF => hK _ _ ?_⟩
  clear hK K
  replace hA5 : Hp w0 ([row b1 45 [.pointer none, .slice none 0 0]] :: R) w4 := hA5
  rw [← hl24] at hF
  refine vc_y hF rfl rfl (by decide) _ (y_assign rfl rfl) (fun a hF => ?_)
  refine vc_nil ?_
  refine hK2 _ _ ?_; clear  hK2 K2
  apply wp_seq_k; intro K3 hK3
  refine wp_region_lit ?_
  refine vc_y hF rfl rfl (by decide) _ (y_move rfl rfl) (fun a hF => ?_)
  refine vc_op rfl (fun K hK => ws_call hF rfl (by decide) cl30_s15 rfl rfl ?_)
  with_reducible refine (rt_build w0 _ ([row b1 45 [.pointer none, .slice none 0 0]] :: R) G (List.Subset.trans hG (subC (sub0))) G A (l.take 24) c (by omega) (by omega) hI2 hL2 hT hA5 ).mono ?_
  rintro e' w6 ⟨top, sl, TX, rfl, hTV, hA7⟩
  refine ⟨_, rfl, fun a hF => hK _ _ ?_⟩
  clear hK K
  replace hA7 : Hp w0 (TX :: [row b1 45 [.pointer none, .slice none 0 0]] :: R) w6 := hA7
  have tv1 : ∀ v ∈ ([top, sl] : List Value), v.oneCell' = true := fun v hv => by
    simp only [List.mem_cons, List.not_mem_nil, or_false] at hv
    rcases hv with rfl | rfl
    · exact hTV.one.1
    · exact hTV.one.2
  refine vc_y hF rfl rfl (by decide) _ (y_move rfl rfl) (fun a hF => ?_)
  refine vc_y hF rfl rfl (by decide) _ (y_extract (v := .agg ([top, sl]).toArray) rfl rfl rfl) (fun a hF => ?_)
  refine vc_y hF rfl rfl (by decide) _ (y_extract (v := .int .i64 (((bldS [] (l.take 24)).1 : Nat) : Int)) rfl rfl rfl) (fun a hF => ?_)
  refine vc_op rfl (fun K hK => hs_alloc hF rfl (by decide) rfl hA7 (zr45_s15) (fun b8 w9 a hb8 hF hA10 => hK _ _ ?_))
  clear hK K
  replace hA10 : Hp w0 ([row b8 45 [.pointer none, .slice none 0 0]] :: TX :: [row b1 45 [.pointer none, .slice none 0 0]] :: R) w9 := hA10
  refine vc_op rfl (fun K hK => hs_storeAll (new := [top, sl]) hF rfl rfl hA10 rfl rfl 0 rfl rfl tv1 sz45_s15 (fun w11 hA12 => hK _ _ ?_))
  clear hK K
  replace hA12 : Hp w0 ([row b8 45 [top, sl]] :: TX :: [row b1 45 [.pointer none, .slice none 0 0]] :: R) w11 := hA12
  refine vc_y hF rfl rfl (by decide) _ (y_assign rfl rfl) (fun a hF => ?_)
  refine vc_nil ?_
  refine hK3 _ _ ?_; clear  hK3 K3
  apply wp_seq_k; intro K4 hK4
  refine wp_region_lit ?_
  refine vc_y hF rfl rfl (by decide) _ (y_move rfl rfl) (fun a hF => ?_)
  refine vc_op rfl (fun K hK => ws_call hF rfl (by decide) cl69_s15 rfl rfl ?_)
  with_reducible refine (rr_build w0 _ ([row b8 45 [top, sl]] :: TX :: [row b1 45 [.pointer none, .slice none 0 0]] :: R) G (List.Subset.trans hG (subC (subC (subC (sub0))))) A (l.take 24) c (by omega) (by omega) hI2 hL2 hA12 ).mono ?_
  rintro e' w13 ⟨rv, RX, rfl, hRB, hA14⟩
  refine ⟨_, rfl, fun a hF => hK _ _ ?_⟩
  clear hK K
  replace hA14 : Hp w0 (RX :: [row b8 45 [top, sl]] :: TX :: [row b1 45 [.pointer none, .slice none 0 0]] :: R) w13 := hA14
  refine vc_y hF rfl rfl (by decide) _ (y_move rfl rfl) (fun a hF => ?_)
  refine vc_y hF rfl rfl (by decide) _ (y_extract (v := rv) rfl rfl rfl) (fun a hF => ?_)
  refine vc_y hF rfl rfl (by decide) _ (y_extract (v := .int .i64 (((bldS [] (l.take 24)).1 : Nat) : Int)) rfl rfl rfl) (fun a hF => ?_)
  refine vc_y hF rfl rfl (by decide) _ (y_assign rfl rfl) (fun a hF => ?_)
  refine vc_y hF rfl rfl (by decide) _ (y_assign rfl rfl) (fun a hF => ?_)
  refine vc_nil ?_
  refine hK4 _ _ ?_; clear  hK4 K4
  apply wp_seq_k; intro K5 hK5
  refine wp_region_lit ?_
  refine vc_y hF rfl rfl (by decide) _ (y_ldRow (new := [top, sl]) rfl hA14.q rfl 1 rfl rw45_s15 (Nat.le_of_ble_eq_true rfl) rfl) (fun a hF => ?_)
  refine vc_y hF rfl rfl (by decide) _ (y_move rfl rfl) (fun a hF => ?_)
  refine vc_y hF rfl rfl (by decide) _ (y_move rfl rfl) (fun a hF => ?_)
  refine vc_y hF rfl rfl (by decide) _ (y_move rfl rfl) (fun a hF => ?_)
  refine vc_y hF rfl rfl (by decide) _ (y_cmp rfl rfl rfl rfl (eql_t (by omega))) (fun a hF => ?_)
  refine vc_op rfl (fun K hK => hs_storeAll (new := [top, sl]) hF rfl rfl hA14 rfl rfl 3 rfl rfl tv1 sz45_s15 (fun w15 hA16 => hK _ _ ?_))
  clear hK K
  replace hA16 : Hp w0 (RX :: [row b8 45 [top, sl]] :: TX :: [row b1 45 [top, sl]] :: R) w15 := hA16
  refine vc_y hF rfl rfl (by decide) _ (y_assign rfl rfl) (fun a hF => ?_)
  refine vc_y hF rfl rfl (by decide) _ (y_assign rfl rfl) (fun a hF => ?_)
  refine vc_nil ?_
  refine hK5 _ _ ?_; clear  hK5 K5
  apply wp_ret
  refine vc_retCTT hF Tryd.results37 hA16.q rfl rfl rfl 3 rfl rw45_s15 ?_
  have hA17 : Hp w0 (TX :: RX :: R) w15 := Hp.sel [RX, [row b8 45 [top, sl]], TX, [row b1 45 [top, sl]]] R [2, 0] [1, 3] hA16 rfl
  exact ⟨top, sl, rv, TX, RX, rfl, hTV, hRB, hA17⟩
end Go.Proofs.YtpomngkcfbnjoaaDoor
