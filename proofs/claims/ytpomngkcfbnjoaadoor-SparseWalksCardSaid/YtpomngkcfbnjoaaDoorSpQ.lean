/- docketref8 walked. -/
import Derived.Test.YtpomngkcfbnjoaaDoorSpZ
import Derived.Test.YtpomngkcfbnjoaaDoorSp1
import Derived.Test.YtpomngkcfbnjoaaDoorTree
namespace Go.Proofs.YtpomngkcfbnjoaaDoor
open Go.RowKit Go.Dk

/-! ### keys held against one another -/
theorem nb_first : ∀ (i : Nat) {a b : List UInt8}, a.length = b.length → i < a.length → (∀ j, j < i → bAt a j = bAt b j) → bAt a i ≠ bAt b i → (nb a < nb b ↔ (bAt a i).toNat < (bAt b i).toNat)
  | _, [], _, _, h, _, _ => absurd h (Nat.not_lt_zero _)
  | _, _ :: _, [], h, _, _, _ => by cases h
  | 0, x :: a, y :: b, hl, _, _, hne => by
    have hl' : a.length = b.length := by simpa using hl
    have h1 := nb_lt a
    have h2 := nb_lt b
    rw [← hl'] at h2
    have hne' : x.toNat ≠ y.toNat := fun e => hne (UInt8.toNat_inj.1 e)
    show x.toNat * 2 ^ (8 * a.length) + nb a < y.toNat * 2 ^ (8 * b.length) + nb b ↔ x.toNat < y.toNat
    rw [← hl']
    generalize 2 ^ (8 * a.length) = P at h1 h2
    constructor
    · intro h
      rcases Nat.lt_or_ge x.toNat y.toNat with h3 | h3
      · exact h3
      · have h4 : (y.toNat + 1) * P ≤ x.toNat * P := Nat.mul_le_mul_right _ (by omega)
        rw [Nat.add_mul, Nat.one_mul] at h4
        omega
    · intro h
      have h4 : (x.toNat + 1) * P ≤ y.toNat * P := Nat.mul_le_mul_right _ h
      rw [Nat.add_mul, Nat.one_mul] at h4
      omega
  | i + 1, x :: a, y :: b, hl, hi, hall, hne => by
    have hl' : a.length = b.length := by simpa using hl
    have h0 : x = y := hall 0 (Nat.succ_pos _)
    subst h0
    have h1 := nb_first i hl' (by simpa using hi) (fun j hj => hall (j + 1) (by omega)) hne
    show x.toNat * 2 ^ (8 * a.length) + nb a < x.toNat * 2 ^ (8 * b.length) + nb b ↔ _
    rw [← hl']
    refine Iff.trans ?_ h1
    omega
theorem bytes_ext : ∀ {a b : List UInt8}, a.length = b.length → (∀ j, j < a.length → bAt a j = bAt b j) → a = b
  | [], [], _, _ => rfl
  | [], _ :: _, h, _ => by cases h
  | _ :: _, [], h, _ => by cases h
  | x :: a, y :: b, h, h2 => by
    have h0 : x = y := h2 0 (by simp)
    rw [h0, bytes_ext (by simpa using h) fun j hj => h2 (j + 1) (by simpa using hj)]
theorem nb_lss {a b : List UInt8} {i : Nat} (ha : a.length = 32) (hb : b.length = 32) (hi : i < 32) (h : ∀ j, j < i → bAt a j = bAt b j) (hne : bAt a i ≠ bAt b i) : cmpB .lss ((bAt a i).toNat : Int) ((bAt b i).toNat : Int) = decide (nb a < nb b) := by
  have h1 := nb_first i (ha.trans hb.symm) (by omega) h hne
  unfold cmpB
  apply decide_eq_decide.2
  rw [h1]
  omega
theorem cel_snoc (l : List Itm) (x : Itm) : cel Itm.cells (l ++ [x]) = cel Itm.cells l ++ x.cells := by
  rw [cel_append]
  congr 1
  unfold cel
  simp
theorem snoc_len (l : List Itm) (x : Itm) : l.length + 1 = (l ++ [x]).length := (@List.length_append Itm l [x]).symm
theorem getL_cons {i : Itm} {l : List Itm} {k : List UInt8} (h : ¬ i.k = k) : getL (i :: l) k = getL l k := List.find?_cons_of_neg (by simpa using h)
theorem getL_here {i : Itm} {l : List Itm} {k : List UInt8} (h : i.k = k) : getL (i :: l) k = some i := List.find?_cons_of_pos (by exact decide_eq_true h)
theorem sz54_s15 : (Tryd.prog.info? 54).map (·.size) = some 65 := by kernel_rfl
set_option maxRecDepth 100000 in
set_option maxHeartbeats 2000000 in
theorem rr_fewI (w0 w : World) (R : List Seg) (A : Option Addr) (n m c : Nat) (hn : n ≤ c) (hA : Hp w0 R w) : Calls Tryd.prog 32 #[.slice A n c, .int .i64 ((m : Nat) : Int)] w fun e w' => e = .returned (.slice A (min n m) c) ∧ Hp w0 R w' := by
  refine vc_enter Tryd.func32 rfl Tryd.ntmps32 (Nat.le_of_ble_eq_true rfl) (fun a hF => ?_)
  apply wp_seq_k; intro K1 hK1
  refine wp_region_lit ?_
  refine vc_y hF rfl rfl (by decide) _ (y_assign rfl rfl) (fun a hF => ?_)
  refine vc_nil ?_
  refine hK1 _ _ ?_; clear  hK1 K1
  apply wp_seq_k; intro K2 hK2
  apply wp_seq_k; intro K3 hK3
  by_cases hgt : m < n
  · refine wp_region_lit ?_
    refine vc_y hF rfl rfl (by decide) _ (y_move rfl rfl) (fun a hF => ?_)
    refine vc_y hF rfl rfl (by decide) _ (y_lenSl rfl Tryd.underlying55 rfl rfl) (fun a hF => ?_)
    refine vc_y hF rfl rfl (by decide) _ (y_move rfl rfl) (fun a hF => ?_)
    refine vc_y hF rfl rfl (by decide) _ (y_cmp rfl rfl rfl rfl (gtr_t (by omega))) (fun a hF => ?_)
    refine vc_nil ?_
    refine hK3 _ _ ?_; clear  hK3 K3
    refine vc_true hF rfl ?_
    apply wp_seq_k; intro K4 hK4
    refine wp_region_lit ?_
    refine vc_y hF rfl rfl (by decide) _ (y_move rfl rfl) (fun a hF => ?_)
    refine vc_y hF rfl rfl (by decide) _ (y_move rfl rfl) (fun a hF => ?_)
    refine vc_y hF rfl rfl (by decide) _ (y_slice rfl Tryd.underlying55 sz54_s15 rfl (.none 0) (.some rfl rfl) (Nat.zero_le _) (show m ≤ c by omega) slice_to) (fun a hF => ?_)
    refine vc_y hF rfl rfl (by decide) _ (y_assign rfl rfl) (fun a hF => ?_)
    refine vc_nil ?_
    refine hK4 _ _ ?_; clear  hK4 K4
    apply wp_ret
    simp only [Exit.then]
    refine vc_ret1 hF Tryd.results32 rfl ?_
    exact ⟨by rw [show min n m = m by omega], hA⟩
  · refine wp_region_lit ?_
    refine vc_y hF rfl rfl (by decide) _ (y_move rfl rfl) (fun a hF => ?_)
    refine vc_y hF rfl rfl (by decide) _ (y_lenSl rfl Tryd.underlying55 rfl rfl) (fun a hF => ?_)
    refine vc_y hF rfl rfl (by decide) _ (y_move rfl rfl) (fun a hF => ?_)
    refine vc_y hF rfl rfl (by decide) _ (y_cmp rfl rfl rfl rfl (gtr_f (by omega))) (fun a hF => ?_)
    refine vc_nil ?_
    refine hK3 _ _ ?_; clear  hK3 K3
    refine vc_false hF rfl ?_
    apply wp_skip
    refine hK2 _ _ ?_; clear  hK2 K2
    apply wp_seq_k; intro K5 hK5
    refine wp_region_lit ?_
    refine vc_y hF rfl rfl (by decide) _ (y_move rfl rfl) (fun a hF => ?_)
    refine vc_y hF rfl rfl (by decide) _ (y_assign rfl rfl) (fun a hF => ?_)
    refine vc_nil ?_
    refine hK5 _ _ ?_; clear  hK5 K5
    apply wp_ret
    refine vc_ret1 hF Tryd.results32 rfl ?_
    exact ⟨by rw [show min n m = n by omega], hA⟩

end Go.Proofs.YtpomngkcfbnjoaaDoor
