/- The statement about hashers: the row of hashers. -/
import Derived.Test.YtppmhlkonemebaaDoorHc
namespace Go.Proofs.YtppmhlkonemebaaDoor
open Go.RowKit Go.Dk
theorem nr3_pl : notRow Tryd.prog 3 = true := by kernel_rfl
theorem nr5_pl : notRow Tryd.prog 5 = true := by kernel_rfl
theorem nr24_pl : notRow Tryd.prog 24 = true := by kernel_rfl
theorem nr28_pl : notRow Tryd.prog 28 = true := by kernel_rfl
theorem nr29_pl : notRow Tryd.prog 29 = true := by kernel_rfl
theorem nr32_pl : notRow Tryd.prog 32 = true := by kernel_rfl
theorem sz3_pl : (Tryd.prog.info? 3).map (·.size) = some 1 := by kernel_rfl
theorem sz5_pl : (Tryd.prog.info? 5).map (·.size) = some 1 := by kernel_rfl
theorem sz24_pl : (Tryd.prog.info? 24).map (·.size) = some 1 := by kernel_rfl
theorem sz28_pl : (Tryd.prog.info? 28).map (·.size) = some 1 := by kernel_rfl
theorem sz29_pl : (Tryd.prog.info? 29).map (·.size) = some 1 := by kernel_rfl
theorem sz32_pl : (Tryd.prog.info? 32).map (·.size) = some 1 := by kernel_rfl
theorem cl13_pl : CallsTo Tryd.prog 13 := ⟨_, Tryd.func13, by kernel_rfl, by kernel_rfl⟩
theorem cl14_pl : CallsTo Tryd.prog 14 := ⟨_, Tryd.func14, by kernel_rfl, by kernel_rfl⟩
theorem cl15_pl : CallsTo Tryd.prog 15 := ⟨_, Tryd.func15, by kernel_rfl, by kernel_rfl⟩
theorem cl17_pl : CallsTo Tryd.prog 17 := ⟨_, Tryd.func17, by kernel_rfl, by kernel_rfl⟩
theorem cl19_pl : CallsTo Tryd.prog 19 := ⟨_, Tryd.func19, by kernel_rfl, by kernel_rfl⟩
theorem cl20_pl : CallsTo Tryd.prog 20 := ⟨_, Tryd.func20, by kernel_rfl, by kernel_rfl⟩
theorem cl22_pl : CallsTo Tryd.prog 22 := ⟨_, Tryd.func22, by kernel_rfl, by kernel_rfl⟩
theorem cl24_pl : CallsTo Tryd.prog 24 := ⟨_, Tryd.func24, by kernel_rfl, by kernel_rfl⟩
theorem cl53_pl : CallsTo Tryd.prog 53 := ⟨_, Tryd.func53, by kernel_rfl, by kernel_rfl⟩


def withinI (n lo hi : Int) : Int := lo + n.emod (hi - lo + 1)
theorem within_key (n m : Int) (hm : 0 < m) : -m < n.tmod m ∧ n.tmod m < m ∧ n.emod m = if n.tmod m < 0 then n.tmod m + m else n.tmod m := by
  have h1 := Int.tmod_lt_of_pos n hm
  have h2 := Int.emod_nonneg n (show m ≠ 0 by omega)
  have h3 := Int.emod_lt_of_pos n hm
  have h4 := Int.mul_tdiv_add_tmod n m
  have h5 := Int.mul_ediv_add_emod n m
  have h6 : -m < n.tmod m := by
    have := Int.tmod_lt_of_pos (-n) hm
    rw [Int.neg_tmod] at this
    omega
  refine ⟨h6, h1, ?_⟩
  have h7 : m * (n / m - n.tdiv m) = n.tmod m - n.emod m := by
    rw [Int.mul_sub]
    have : n.emod m = n % m := rfl
    rw [this]
    omega
  have h8 : n.emod m = n % m := rfl
  split
  · have h9 : n / m - n.tdiv m = -1 := by
      have a1 : m * (n / m - n.tdiv m) < 0 := by omega
      have a2 : -(2 * m) < m * (n / m - n.tdiv m) := by omega
      have a3 : n / m - n.tdiv m < 0 := by
        rcases Int.lt_or_le (n / m - n.tdiv m) 0 with h | h
        · exact h
        · have := Int.mul_nonneg (Int.le_of_lt hm) h; omega
      have a4 : -2 < n / m - n.tdiv m := by
        rcases Int.lt_or_le (-2) (n / m - n.tdiv m) with h | h
        · exact h
        · have := Int.mul_le_mul_of_nonneg_left h (Int.le_of_lt hm); omega
      omega
    rw [h9] at h7
    omega
  · have h9 : n / m - n.tdiv m = 0 := by
      have a1 : -m < m * (n / m - n.tdiv m) := by omega
      have a2 : m * (n / m - n.tdiv m) < m := by omega
      have a3 : n / m - n.tdiv m < 1 := by
        rcases Int.lt_or_le (n / m - n.tdiv m) 1 with h | h
        · exact h
        · have := Int.mul_le_mul_of_nonneg_left h (Int.le_of_lt hm); omega
      have a4 : -1 < n / m - n.tdiv m := by
        rcases Int.lt_or_le (-1) (n / m - n.tdiv m) with h | h
        · exact h
        · have := Int.mul_le_mul_of_nonneg_left h (Int.le_of_lt hm); omega
      omega
    rw [h9] at h7
    omega
theorem within_le (n lo hi : Int) (h : lo ≤ hi) : lo ≤ withinI n lo hi ∧ withinI n lo hi ≤ hi := by
  have h2 := Int.emod_nonneg n (show hi - lo + 1 ≠ 0 by omega)
  have h3 := Int.emod_lt_of_pos n (show 0 < hi - lo + 1 by omega)
  unfold withinI
  have h4 : n.emod (hi - lo + 1) = n % (hi - lo + 1) := rfl
  omega

set_option maxRecDepth 100000 in
set_option maxHeartbeats 4000000 in
theorem bk_within (w : World) (n lo hi : Int) (h0 : 0 ≤ lo) (h1 : lo ≤ hi) (h2 : hi < 2305843009213693952) : Calls Tryd.prog 53 #[.int .i64 n, .int .i64 lo, .int .i64 hi] w fun e w' => e = .returned (.int .i64 (withinI n lo hi)) ∧ w = w' := by
  obtain ⟨k1, k2, k3⟩ := within_key n (hi - lo + 1) (by omega)
  have k4 : withinI n lo hi = lo + n.emod (hi - lo + 1) := rfl
  generalize hq : n.tmod (hi - lo + 1) = q at *
  refine vc_enter Tryd.func53 rfl Tryd.ntmps53 (Nat.le_of_ble_eq_true rfl) (fun a hF => ?_)
  apply wp_seq_k; intro K1 hK1
  refine wp_region_lit ?_
  refine vc_y hF rfl rfl (by decide) _ (y_assign rfl rfl) (fun a hF => ?_)
  refine vc_nil ?_
  refine hK1 _ _ ?_; clear  hK1 K1
  apply wp_seq_k; intro K2 hK2
  refine wp_region_lit ?_
  refine vc_y hF rfl rfl (by decide) _ (y_move rfl rfl) (fun a hF => ?_)
  refine vc_y hF rfl rfl (by decide) _ (y_move rfl rfl) (fun a hF => ?_)
  refine vc_y hF rfl rfl (by decide) _ (y_move rfl rfl) (fun a hF => ?_)
  refine vc_y hF rfl rfl (by decide) _ (y_sub rfl rfl rfl (IntWalk.i64_in _ (by omega))) (fun a hF => ?_)
  refine vc_y hF rfl rfl (by decide) _ (y_add rfl rfl rfl (IntWalk.i64_in _ (by omega))) (fun a hF => ?_)
  refine vc_y hF rfl rfl (by decide) _ (y_rem rfl rfl rfl (by omega) hq) (fun a hF => ?_)
  refine vc_y hF rfl rfl (by decide) _ (y_assign rfl rfl) (fun a hF => ?_)
  refine vc_nil ?_
  refine hK2 _ _ ?_; clear  hK2 K2
  apply wp_seq_k; intro K3 hK3
  apply wp_seq_k; intro K4 hK4
  refine wp_region_lit ?_
  refine vc_y hF rfl rfl (by decide) _ (y_move rfl rfl) (fun a hF => ?_)
  refine vc_y hF rfl rfl (by decide) _ (y_cmp rfl rfl rfl rfl rfl) (fun a hF => ?_)
  refine vc_nil ?_
  refine hK4 _ _ ?_; clear  hK4 K4
  by_cases hneg : q < 0
  · refine vc_trueB hF rfl (lss_t hneg) ?_
    refine wp_region_lit ?_
    refine vc_y hF rfl rfl (by decide) _ (y_move rfl rfl) (fun a hF => ?_)
    refine vc_y hF rfl rfl (by decide) _ (y_move rfl rfl) (fun a hF => ?_)
    refine vc_y hF rfl rfl (by decide) _ (y_add rfl rfl rfl (IntWalk.i64_in _ (by omega))) (fun a hF => ?_)
    refine vc_y hF rfl rfl (by decide) _ (y_move rfl rfl) (fun a hF => ?_)
    refine vc_y hF rfl rfl (by decide) _ (y_sub rfl rfl rfl (IntWalk.i64_in _ (by omega))) (fun a hF => ?_)
    refine vc_y hF rfl rfl (by decide) _ (y_add rfl rfl rfl (IntWalk.i64_in _ (by omega))) (fun a hF => ?_)
    refine vc_y hF rfl rfl (by decide) _ (y_assign rfl rfl) (fun a hF => ?_)
    refine vc_nil ?_
    refine hK3 _ _ ?_; clear  hK3 K3
    apply wp_seq_k; intro K5 hK5
    refine wp_region_lit ?_
    refine vc_y hF rfl rfl (by decide) _ (y_move rfl rfl) (fun a hF => ?_)
    refine vc_y hF rfl rfl (by decide) _ (y_move rfl rfl) (fun a hF => ?_)
    refine vc_y hF rfl rfl (by decide) _ (y_add rfl rfl rfl (show IntKind.i64.wrap _ = withinI n lo hi by rw [IntWalk.i64_in _ (by omega), k4, k3]; first | rw [if_pos hneg]; omega | rw [if_neg hneg])) (fun a hF => ?_)
    refine vc_y hF rfl rfl (by decide) _ (y_assign rfl rfl) (fun a hF => ?_)
    refine vc_nil ?_
    refine hK5 _ _ ?_; clear  hK5 K5
    apply wp_ret
    refine vc_ret1 hF Tryd.results53 rfl ?_
    exact ⟨rfl, rfl⟩
  · refine vc_falseB hF rfl (lss_f (by omega)) ?_
    apply wp_skip
    refine hK3 _ _ ?_; clear  hK3 K3
    apply wp_seq_k; intro K6 hK6
    refine wp_region_lit ?_
    refine vc_y hF rfl rfl (by decide) _ (y_move rfl rfl) (fun a hF => ?_)
    refine vc_y hF rfl rfl (by decide) _ (y_move rfl rfl) (fun a hF => ?_)
    refine vc_y hF rfl rfl (by decide) _ (y_add rfl rfl rfl (show IntKind.i64.wrap _ = withinI n lo hi by rw [IntWalk.i64_in _ (by omega), k4, k3]; first | rw [if_pos hneg]; omega | rw [if_neg hneg])) (fun a hF => ?_)
    refine vc_y hF rfl rfl (by decide) _ (y_assign rfl rfl) (fun a hF => ?_)
    refine vc_nil ?_
    refine hK6 _ _ ?_; clear  hK6 K6
    apply wp_ret
    refine vc_ret1 hF Tryd.results53 rfl ?_
    exact ⟨rfl, rfl⟩

theorem vp_skipU {P : Program} {Q : Exit → Act → World → Prop} {w : World} {n : Nat} {F : List (Nat × Value)} {a : Act} {ops : Array Oper} {S : World → Prop} {hd : Nat} {loud rest : List Nat} {i : Nat} {o : Oper} {d : Nat} (hF : Fr n F a) (ho : ops[i]? = some o) (hl : loud.contains i = false) (hdst : o.dst = some d) {j dj : Nat} {want : Bool} {oj : Oper} (hg : o.guard = some (j, want)) (hj : ops[j]? = some oj) (hdj : oj.dst = some dj) (hlk : Go.Dk.look F dj = some undef) (hlt : d < n)
    (h : ∀ a', Fr n ((d, undef) :: F) a' → wpPlan P ops Q S hd loud rest a' w) : wpPlan P ops Q S hd loud (i :: rest) a w := by
  have h2 : Region.wanted o (yielded ops a.tmps) = false := by
    have h1 := hF.has dj _ hlk
    unfold Region.wanted
    simp only [hg, yielded, hj, hdj, Option.bind_some, h1]
    rfl
  refine plan_skip ho h2 ?_ hl
  rw [hdst]
  exact h _ (hF.put hlt)
/-- a hasher, and the text that it has taken -/
structure PX where
  hb : Nat
  m : List UInt8
  Y : Seg
  tv : Value
  Z : Seg
def pxP (q : PX) : Value := .pointer (some ⟨q.hb, 0, none⟩)
def pxS (q : PX) : Seg := q.Y ++ q.Z
def PXok (T : Nat) (q : PX) : Prop := (HsS q.hb q.m q.Y ∧ Buf 5 1 q.Z q.tv q.m.length (dc q.m)) ∧ q.m.length ≤ T
def RowOK (rb n T held : Nat) (Y : Seg) : Prop := ∃ (qs : List PX) (hsv txv : Value) (XH XT : Seg), qs.length = n ∧ (∀ q ∈ qs, PXok T q) ∧ Buf 32 1 XH hsv qs.length (qs.map pxP) ∧ Buf 24 1 XT txv qs.length (qs.map (·.tv)) ∧ Y = row rb 31 [hsv, txv, .int .i64 ((held : Nat) : Int)] :: (XH ++ (XT ++ (qs.map pxS).flatten))
theorem RowOK.mono {rb n T T' held : Nat} {Y : Seg} (h : RowOK rb n T held Y) (hT : T ≤ T') : RowOK rb n T' held Y := by
  obtain ⟨qs, a, b, c, d, h1, h2, h3⟩ := h
  exact ⟨qs, a, b, c, d, h1, fun q hq => ⟨(h2 q hq).1, Nat.le_trans (h2 q hq).2 hT⟩, h3⟩
theorem pl_info : ∃ i, Tryd.prog.info? 87 = some i ∧ i.size ≠ 0 := by
  have h := size87
  cases hi : Tryd.prog.info? 87 with
  | none => rw [hi] at h; cases h
  | some i =>
    refine ⟨i, rfl, fun e => ?_⟩
    rw [hi] at h
    simp [e] at h
theorem pl_bsP (b : Nat) (w : World) : (Instr.buildSlice 28 1 #[(0, .pointer (some ⟨b, 0, none⟩))]).run Tryd.prog w = .ok (.slice (some ⟨w.heap.size, 0, none⟩) 1 1) (w.alloc (.cells #[.pointer (some ⟨b, 0, none⟩)] 32)) := by kernel_rfl
theorem pl_bsT (A : Option Addr) (n c : Nat) (w : World) : (Instr.buildSlice 29 1 #[(0, .slice A n c)]).run Tryd.prog w = .ok (.slice (some ⟨w.heap.size, 0, none⟩) 1 1) (w.alloc (.cells #[.slice A n c] 24)) := by kernel_rfl
theorem pl_elemP : elemInfo Tryd.prog 32 1 8 := elemInfo_of (z := .pointer none) (by kernel_rfl) (by kernel_rfl)
theorem pl_elemT : elemInfo Tryd.prog 24 1 24 := elemInfo_of (z := .slice none 0 0) (by kernel_rfl) (by kernel_rfl)
theorem pl_elemB : elemInfo Tryd.prog 5 1 1 := elemInfo_of (z := .int .u8 0) (by kernel_rfl) (by kernel_rfl)
theorem pl_grow {n : Nat} (h : n < 1000000000) : (n + 1 + (n + 1) / 4 + 192) * 8 ≤ 281474976710656 ∧ (n + 1 + (n + 1) / 4 + 192) * 24 ≤ 281474976710656 := by omega
theorem px_sub {qs : List PX} {i : Nat} {q : PX} (hq : qs[i]? = some q) : q.Y ⊆ (qs.map pxS).flatten := fun r hr => List.mem_flatten.2 ⟨pxS q, List.mem_map_of_mem (List.mem_of_getElem? hq), List.mem_append_left _ hr⟩
theorem px_subZ {qs : List PX} {i : Nat} {q : PX} (hq : qs[i]? = some q) : q.Z ⊆ (qs.map pxS).flatten := fun r hr => List.mem_flatten.2 ⟨pxS q, List.mem_map_of_mem (List.mem_of_getElem? hq), List.mem_append_right _ hr⟩

set_option maxRecDepth 100000 in
set_option maxHeartbeats 4000000 in
theorem pl_joins (w0 w : World) (R : List Seg) (rb T held : Nat) (qs : List PX) (hsv txv : Value) (XH XT : Seg) (hqs : ∀ q ∈ qs, PXok T q) (hHs : Buf 32 1 XH hsv qs.length (qs.map pxP)) (hTx : Buf 24 1 XT txv qs.length (qs.map (·.tv))) (hb : Nat) (m : List UInt8) (YH : Seg) (hH : HsS hb m YH) (A : Option Addr) (c : Nat) (hR : Rd w0 ((qs.map pxS).flatten :: R) A m) (hmT : m.length ≤ T) (hT : T < 70368744177664) (hheld : held ≤ 4000000) (hn : qs.length < 1000000000) (hA : Hp w0 (YH :: [row rb 31 [hsv, txv, .int .i64 ((held : Nat) : Int)]] :: XH :: XT :: (qs.map pxS).flatten :: R) w) : Calls Tryd.prog 17 #[.pointer (some ⟨rb, 0, none⟩), .pointer (some ⟨hb, 0, none⟩), .slice A m.length c] w fun e w' => ∃ Y', e = .returned (.bool true) ∧ RowOK rb (qs.length + 1) T (held + m.length) Y' ∧ Hp w0 (Y' :: R) w' := by
  obtain ⟨ii, hii, hiz⟩ := pl_info
  obtain ⟨csH, hcsH, hYe⟩ := hH
  have hH : HsS hb m YH := ⟨csH, hcsH, hYe⟩
  have hqb : qs.length < 1000000000 := by omega
  refine vc_enter Tryd.func17 rfl Tryd.ntmps17 (Nat.le_of_ble_eq_true rfl) (fun a hF => ?_)
  apply wp_seq_k; intro K1 hK1
  refine wp_region_lit ?_
  refine vc_y hF rfl rfl (by decide) _ (y_assign rfl rfl) (fun a hF => ?_)
  refine vc_nil ?_
  refine hK1 _ _ ?_; clear  hK1 K1
  apply wp_seq_k; intro K2 hK2
  apply wp_seq_k; intro K3 hK3
  refine wp_region_lit ?_
  refine vc_y hF rfl rfl (by decide) _ (y_move rfl rfl) (fun a hF => ?_)
  refine vc_y hF rfl rfl (by decide) _ (y_eqNil rfl (by kernel_rfl) rfl rfl) (fun a hF => ?_)
  refine vc_nil ?_
  refine hK3 _ _ ?_; clear  hK3 K3
  refine vc_false hF rfl ?_
  apply wp_skip
  refine hK2 _ _ ?_; clear  hK2 K2
  apply wp_seq_k; intro K4 hK4
  apply wp_seq_k; intro K5 hK5
  refine wp_region_lit ?_
  refine vc_y hF rfl rfl (by decide) _ (y_assign rfl rfl) (fun a hF => ?_)
  refine vc_nil ?_
  refine hK5 _ _ ?_; clear  hK5 K5
  apply wp_block
  obtain ⟨AH, cH, rfl, _, hRH⟩ := hHs.rc (w0 := w0) (R := [XH]) (List.mem_cons_self ..)
  refine vc_loop (G := Nat) (fun i a x => i ≤ qs.length ∧ Fr 59 [(7, .int .i64 (i : Int)), (0, .pointer (some ⟨rb, 0, none⟩)), (1, .pointer (some ⟨hb, 0, none⟩)), (2, .slice A m.length c)] a ∧ Hp w0 (YH :: [row rb 31 [.slice AH qs.length cH, txv, .int .i64 ((held : Nat) : Int)]] :: XH :: XT :: (qs.map pxS).flatten :: R) x) (fun i => qs.length - i) 0 (⟨Nat.zero_le _, hF.keep [7, 0, 1, 2] rfl, hA⟩) ?_
  clear hF
  rintro i a w2 ⟨hi, hF, hA1⟩
  apply wp_seq_k; intro K6 hK6
  apply wp_seq_k; intro K7 hK7
  refine wp_region_lit ?_
  refine vc_y hF rfl rfl (by decide) _ (y_move rfl rfl) (fun a hF => ?_)
  refine vc_y hF rfl rfl (by decide) _ (y_move rfl rfl) (fun a hF => ?_)
  refine vc_y hF rfl rfl (by decide) _ (y_nilCheck rfl rfl) (fun a hF => ?_)
  refine vc_y hF rfl rfl (by decide) _ (y_field rfl Tryd.underlying31 rfl sz28_pl (by decide) rfl (rfl : (⟨_, 0 + _, none⟩ : Addr) = ⟨_, 0, none⟩)) (fun a hF => ?_)
  refine vc_y hF rfl rfl (by decide) _ (y_ld rfl hA1.q rfl 1 rfl rfl nr28_pl) (fun a hF => ?_)
  refine vc_y hF rfl rfl (by decide) _ (y_lenSl rfl Tryd.underlying28 rfl rfl) (fun a hF => ?_)
  refine vc_y hF rfl rfl (by decide) _ (y_cmp rfl rfl rfl rfl rfl) (fun a hF => ?_)
  refine vc_nil ?_
  refine hK7 _ _ ?_; clear  hK7 K7
  by_cases hlt : i < qs.length
  · refine vc_trueB hF rfl (lss_t (by omega)) ?_
    obtain ⟨q, hq⟩ : ∃ q, qs[i]? = some q := ⟨_, List.getElem?_eq_getElem hlt⟩
    have hiH : i < (qs.map pxP).length := by rw [List.length_map]; exact hlt
    obtain ⟨bH, pH, rfl, hcH⟩ := hRH.ne (i := i) hiH
    have hqP : (qs.map pxP)[i]? = some (.pointer (some ⟨q.hb, 0, none⟩)) := by rw [List.getElem?_map, hq]; rfl
    obtain ⟨⟨⟨csq, _, hYq⟩, _⟩, _⟩ := hqs q (List.mem_of_getElem? hq)
    have hmem : row q.hb 87 csq ∈ (qs.map pxS).flatten := px_sub hq (by rw [hYq]; exact List.mem_cons_self ..)
    have hgq : w2.heap[q.hb]? = some (.cells csq.toArray 87 (0, 0)) := hA1.items (row q.hb 87 csq) (by simp only [List.flatten_cons, List.mem_append]; exact .inr (.inr (.inr (.inr (.inl hmem)))))
    have hgh : w2.heap[hb]? = some (.cells csH.toArray 87 (0, 0)) := hA1.items (row hb 87 csH) (by rw [hYe]; exact List.mem_cons_self ..)
    have hne : q.hb ≠ hb := Hp.apart (r := row hb 87 csH) (r' := row q.hb 87 csq) hA1 (by rw [hYe]; exact List.mem_cons_self ..) (by simp only [List.flatten_cons, List.mem_append]; exact .inr (.inr (.inr (.inl hmem))))
    apply wp_skip
    refine hK6 _ _ ?_; clear  hK6 K6
    apply wp_seq_k; intro K8 hK8
    apply wp_block
    apply wp_seq_k; intro K9 hK9
    refine wp_region_lit ?_
    refine vc_y hF rfl rfl (by decide) _ (y_move rfl rfl) (fun a hF => ?_)
    refine vc_y hF rfl rfl (by decide) _ (y_nilCheck rfl rfl) (fun a hF => ?_)
    refine vc_y hF rfl rfl (by decide) _ (y_field rfl Tryd.underlying31 rfl sz28_pl (by decide) rfl (rfl : (⟨_, 0 + _, none⟩ : Addr) = ⟨_, 0, none⟩)) (fun a hF => ?_)
    refine vc_y hF rfl rfl (by decide) _ (y_ld rfl hA1.q rfl 1 rfl rfl nr28_pl) (fun a hF => ?_)
    refine vc_y hF rfl rfl (by decide) _ (y_move rfl rfl) (fun a hF => ?_)
    refine vc_y hF rfl rfl (by decide) _ (y_ixSl rfl Tryd.underlying28 sz32_pl rfl rfl i rfl hlt (ad2 _ _ _)) (fun a hF => ?_)
    refine vc_y hF rfl rfl (by decide) _ (y_ldC (u := .pointer (some ⟨q.hb, 0, none⟩)) rfl (Hq.sub hA1.q (sub1 (List.mem_cons_of_mem _ (List.mem_cons_of_mem _ ((List.mem_cons_self ..)))))) rfl hcH i hiH rfl hqP nr32_pl) (fun a hF => ?_)
    refine vc_y hF rfl rfl (by decide) _ (y_move rfl rfl) (fun a hF => ?_)
    refine vc_y hF rfl rfl (by decide) _ (y_ptrNeH rfl Tryd.underlying32 hii hiz hgq hgh hne rfl rfl) (fun a hF => ?_)
    refine vc_nil ?_
    refine hK9 _ _ ?_; clear  hK9 K9
    refine vc_false hF rfl ?_
    apply wp_skip
    refine hK8 _ _ ?_; clear  hK8 K8
    refine wp_region_lit ?_
    refine vc_y hF rfl rfl (by decide) _ (y_move rfl rfl) (fun a hF => ?_)
    refine vc_y hF rfl rfl (by decide) _ (y_add rfl rfl rfl (IntWalk.i64_in _ (by omega))) (fun a hF => ?_)
    refine vc_y hF rfl rfl (by decide) _ (y_assign rfl rfl) (fun a hF => ?_)
    refine vc_nil ?_
    exact ⟨i + 1, by omega, by omega, hF.keep [7, 0, 1, 2] rfl, hA1⟩
  · refine vc_falseB hF rfl (lss_f (by omega)) ?_
    apply wp_exit
    refine hK4 _ _ ?_; clear hK6 K6 hK4 K4
    apply wp_seq_k; intro K10 hK10
    refine wp_region_lit ?_
    refine vc_y hF rfl rfl (by decide) _ (y_move rfl rfl) (fun a hF => ?_)
    refine vc_y hF rfl rfl (by decide) _ (y_move rfl rfl) (fun a hF => ?_)
    refine vc_y hF rfl rfl (by decide) _ (y_nilCheck rfl rfl) (fun a hF => ?_)
    refine vc_y hF rfl rfl (by decide) _ (y_field rfl Tryd.underlying31 rfl sz3_pl (by decide) rfl (rfl : (⟨_, 0 + _, none⟩ : Addr) = ⟨_, 2, none⟩)) (fun a hF => ?_)
    refine vc_y hF rfl rfl (by decide) _ (y_ld rfl hA1.q rfl 1 rfl rfl nr3_pl) (fun a hF => ?_)
    refine vc_y hF rfl rfl (by decide) _ (y_move rfl rfl) (fun a hF => ?_)
    refine vc_y hF rfl rfl (by decide) _ (y_lenSl rfl Tryd.underlying24 rfl rfl) (fun a hF => ?_)
    refine vc_y hF rfl rfl (by decide) _ (y_add (r := ((held + m.length : Nat) : Int)) rfl rfl rfl (by rw [IntWalk.i64_in _ (by omega)]; omega)) (fun a hF => ?_)
    refine vc_y hF rfl rfl (by decide) _ (y_nilCheck rfl rfl) (fun a hF => ?_)
    refine vc_y hF rfl rfl (by decide) _ (y_field rfl Tryd.underlying31 rfl sz3_pl (by decide) rfl (rfl : (⟨_, 0 + _, none⟩ : Addr) = ⟨_, 2, none⟩)) (fun a hF => ?_)
    refine vc_op rfl (fun K hK => hs_store1 hF rfl rfl hA1 rfl rfl 1 rfl (by simp) rfl sz3_pl (fun w3 hA4 => hK _ _ ?_))
    clear hK K
    replace hA4 : Hp w0 (YH :: [row rb 31 [.slice AH qs.length cH, txv, .int .i64 ((held + m.length : Nat) : Int)]] :: XH :: XT :: (qs.map pxS).flatten :: R) w3 := hA4
    refine vc_nil ?_
    refine hK10 _ _ ?_; clear  hK10 K10
    apply wp_seq_k; intro K11 hK11
    refine wp_region_lit ?_
    refine vc_y hF rfl rfl (by decide) _ (y_move rfl rfl) (fun a hF => ?_)
    refine vc_y hF rfl rfl (by decide) _ (y_move rfl rfl) (fun a hF => ?_)
    refine vc_y hF rfl rfl (by decide) _ (y_nilCheck rfl rfl) (fun a hF => ?_)
    refine vc_y hF rfl rfl (by decide) _ (y_field rfl Tryd.underlying31 rfl sz28_pl (by decide) rfl (rfl : (⟨_, 0 + _, none⟩ : Addr) = ⟨_, 0, none⟩)) (fun a hF => ?_)
    refine vc_y hF rfl rfl (by decide) _ (y_ld rfl hA4.q rfl 1 rfl rfl nr28_pl) (fun a hF => ?_)
    refine vc_y hF rfl rfl (by decide) _ (y_move rfl rfl) (fun a hF => ?_)
    refine vc_op rfl (fun K hK => hs_bs1 (u1 := .pointer (some ⟨hb, 0, none⟩)) hF rfl (by decide) rfl hA4 rfl (pl_bsP hb) (fun b5 w6 a hb5 hF hA7 => hK _ _ ?_))
    clear hK K
    replace hA7 : Hp w0 ([row b5 32 [.pointer (some ⟨hb, 0, none⟩)]] :: YH :: [row rb 31 [.slice AH qs.length cH, txv, .int .i64 ((held + m.length : Nat) : Int)]] :: XH :: XT :: (qs.map pxS).flatten :: R) w6 := hA7
    refine vc_op rfl (fun K hK => hs_append hF rfl (by decide) rfl hA7 3 rfl hHs Tryd.underlying28 pl_elemP rfl rfl (Rc.srcC (W := [.pointer (some ⟨hb, 0, none⟩)]) (m := 1) (size := 1) (R := [row b5 32 [.pointer (some ⟨hb, 0, none⟩)]] :: YH :: [row rb 31 [.slice AH qs.length cH, txv, .int .i64 ((held + m.length : Nat) : Int)]] :: XH :: XT :: (qs.map pxS).flatten :: R) (Rc.ofRow (i := 0) (off := 0) rfl rfl) hA7.q Tryd.underlying28 (by decide) rfl (by simp [Value.oneCell'])) ((pl_grow hqb).1) (by decide) (fun hsv2 XH2 w8 a hHs2 hF hA9 => hK _ _ ?_))
    clear hK K
    replace hA9 : Hp w0 ([row b5 32 [.pointer (some ⟨hb, 0, none⟩)]] :: YH :: [row rb 31 [.slice AH qs.length cH, txv, .int .i64 ((held + m.length : Nat) : Int)]] :: XH2 :: XT :: (qs.map pxS).flatten :: R) w8 := hA9
    refine vc_y hF rfl rfl (by decide) _ (y_nilCheck rfl rfl) (fun a hF => ?_)
    refine vc_y hF rfl rfl (by decide) _ (y_field rfl Tryd.underlying31 rfl sz28_pl (by decide) rfl (rfl : (⟨_, 0 + _, none⟩ : Addr) = ⟨_, 0, none⟩)) (fun a hF => ?_)
    refine vc_op rfl (fun K hK => hs_store1 hF rfl rfl hA9 rfl rfl 2 rfl (by simp) hHs2.one sz28_pl (fun w10 hA11 => hK _ _ ?_))
    clear hK K
    replace hA11 : Hp w0 ([row b5 32 [.pointer (some ⟨hb, 0, none⟩)]] :: YH :: [row rb 31 [hsv2, txv, .int .i64 ((held + m.length : Nat) : Int)]] :: XH2 :: XT :: (qs.map pxS).flatten :: R) w10 := hA11
    refine vc_nil ?_
    refine hK11 _ _ ?_; clear  hK11 K11
    apply wp_seq_k; intro K12 hK12
    have hA12 : Hp w0 (([] : Seg) :: [row b5 32 [.pointer (some ⟨hb, 0, none⟩)]] :: YH :: [row rb 31 [hsv2, txv, .int .i64 ((held + m.length : Nat) : Int)]] :: XH2 :: XT :: (qs.map pxS).flatten :: R) w10 := Hp.nil hA11
    have hB0 : Buf 5 1 [] (.slice none 0 0) 0 [] := Buf.nil _ _
    refine wp_region_plan 11 [6,7,8,11] [0,1,2,3,4,5,6,7,8,9,10,11] (fun x => Hq w0 ([row b5 32 [.pointer (some ⟨hb, 0, none⟩)]] :: YH :: [row rb 31 [hsv2, txv, .int .i64 ((held + m.length : Nat) : Int)]] :: XH2 :: (qs.map pxS).flatten :: R) x) (by kernel_rfl) (by kernel_rfl) (Hq.drew (Hp.qp [([] : Seg), [row b5 32 [.pointer (some ⟨hb, 0, none⟩)]], YH, [row rb 31 [hsv2, txv, .int .i64 ((held + m.length : Nat) : Int)]], XH2, XT, (qs.map pxS).flatten] R [1, 2, 3, 4, 6] hA12)) ?_
    have hA13 := Hl.drew hA12
    refine vp_y hF rfl rfl rfl rfl (by decide) _ (fun x hx => y_move rfl rfl) (fun a hF => ?_)
    refine vp_y hF rfl rfl rfl rfl (by decide) _ (fun x hx => y_move rfl rfl) (fun a hF => ?_)
    refine vp_y hF rfl rfl rfl rfl (by decide) _ (fun x hx => y_nilCheck rfl rfl) (fun a hF => ?_)
    refine vp_y hF rfl rfl rfl rfl (by decide) _ (fun x hx => y_field rfl Tryd.underlying31 rfl sz29_pl (by decide) rfl (rfl : (⟨_, 0 + _, none⟩ : Addr) = ⟨_, 1, none⟩)) (fun a hF => ?_)
    refine vp_y hF rfl rfl rfl rfl (by decide) _ (fun x hx => y_ld rfl hx rfl 2 rfl rfl nr29_pl) (fun a hF => ?_)
    refine vp_y hF rfl rfl rfl rfl (by decide) _ (fun x hx => y_move rfl rfl) (fun a hF => ?_)
    refine vp_l rfl rfl rfl (fun K hK => hs_append hF rfl (by decide) rfl hA13 0 rfl hB0 Tryd.underlying24 pl_elemB rfl rfl (Rc.src (hR.mono ((fun x hx => List.mem_cons_of_mem _ (List.mem_cons_of_mem _ (List.mem_cons_of_mem _ (List.mem_cons_of_mem _ (List.mem_cons_of_mem _ (List.mem_cons_of_mem _ (hx))))))))) hA13.q Tryd.underlying24) (by omega) (by decide) (fun v2 X2 w14 a hB2 hF hA15 => hK _ _ (fun _ => ?_) ?_))
    · exact Hp.qp [X2, [row b5 32 [.pointer (some ⟨hb, 0, none⟩)]], YH, [row rb 31 [hsv2, txv, .int .i64 ((held + m.length : Nat) : Int)]], XH2, XT, (qs.map pxS).flatten] R [1, 2, 3, 4, 6] hA15
    clear hK K
    replace hA15 : Hp w0 (X2 :: [row b5 32 [.pointer (some ⟨hb, 0, none⟩)]] :: YH :: [row rb 31 [hsv2, txv, .int .i64 ((held + m.length : Nat) : Int)]] :: XH2 :: XT :: (qs.map pxS).flatten :: R) w14 := hA15
    rw [Nat.zero_add, List.nil_append] at hB2
    obtain ⟨A2, c2, rfl, _⟩ := hB2.slice
    refine vp_l rfl rfl rfl (fun K hK => hs_bs1 (u1 := .slice A2 m.length c2) hF rfl (by decide) rfl hA15 rfl (pl_bsT _ _ _) (fun b16 w17 a hb16 hF hA18 => hK _ _ (fun _ => ?_) ?_))
    · exact Hp.qp [[row b16 24 [.slice A2 m.length c2]], X2, [row b5 32 [.pointer (some ⟨hb, 0, none⟩)]], YH, [row rb 31 [hsv2, txv, .int .i64 ((held + m.length : Nat) : Int)]], XH2, XT, (qs.map pxS).flatten] R [2, 3, 4, 5, 7] hA18
    clear hK K
    replace hA18 : Hp w0 ([row b16 24 [.slice A2 m.length c2]] :: X2 :: [row b5 32 [.pointer (some ⟨hb, 0, none⟩)]] :: YH :: [row rb 31 [hsv2, txv, .int .i64 ((held + m.length : Nat) : Int)]] :: XH2 :: XT :: (qs.map pxS).flatten :: R) w17 := hA18
    refine vp_l rfl rfl rfl (fun K hK => hs_append hF rfl (by decide) rfl hA18 6 rfl hTx Tryd.underlying29 pl_elemT rfl rfl (Rc.srcC (W := [.slice A2 m.length c2]) (m := 1) (size := 1) (R := [row b16 24 [.slice A2 m.length c2]] :: X2 :: [row b5 32 [.pointer (some ⟨hb, 0, none⟩)]] :: YH :: [row rb 31 [hsv2, txv, .int .i64 ((held + m.length : Nat) : Int)]] :: XH2 :: XT :: (qs.map pxS).flatten :: R) (Rc.ofRow (i := 0) (off := 0) rfl rfl) hA18.q Tryd.underlying29 (by decide) rfl (by simp [Value.oneCell'])) ((pl_grow hqb).2) (by decide) (fun txv2 XT2 w19 a hTx2 hF hA20 => hK _ _ (fun _ => ?_) ?_))
    · exact Hp.qp [[row b16 24 [.slice A2 m.length c2]], X2, [row b5 32 [.pointer (some ⟨hb, 0, none⟩)]], YH, [row rb 31 [hsv2, txv, .int .i64 ((held + m.length : Nat) : Int)]], XH2, XT2, (qs.map pxS).flatten] R [2, 3, 4, 5, 7] hA20
    clear hK K
    replace hA20 : Hp w0 ([row b16 24 [.slice A2 m.length c2]] :: X2 :: [row b5 32 [.pointer (some ⟨hb, 0, none⟩)]] :: YH :: [row rb 31 [hsv2, txv, .int .i64 ((held + m.length : Nat) : Int)]] :: XH2 :: XT2 :: (qs.map pxS).flatten :: R) w19 := hA20
    refine vp_y hF rfl rfl rfl rfl (by decide) _ (fun x hx => y_nilCheck rfl rfl) (fun a hF => ?_)
    refine vp_y hF rfl rfl rfl rfl (by decide) _ (fun x hx => y_field rfl Tryd.underlying31 rfl sz29_pl (by decide) rfl (rfl : (⟨_, 0 + _, none⟩ : Addr) = ⟨_, 1, none⟩)) (fun a hF => ?_)
    refine vp_l rfl rfl rfl (fun K hK => hs_store1 hF rfl rfl hA20 rfl rfl 4 rfl (by simp) hTx2.one sz29_pl (fun w21 hA22 => hK _ _ (fun h => absurd h (by decide)) ?_))
    clear hK K
    replace hA22 : Hp w0 ([row b16 24 [.slice A2 m.length c2]] :: X2 :: [row b5 32 [.pointer (some ⟨hb, 0, none⟩)]] :: YH :: [row rb 31 [hsv2, txv2, .int .i64 ((held + m.length : Nat) : Int)]] :: XH2 :: XT2 :: (qs.map pxS).flatten :: R) w21 := hA22
    refine plan_end ?_
    refine hK12 _ _ ?_; clear  hK12 K12
    apply wp_seq_k; intro K13 hK13
    refine wp_region_lit ?_
    refine vc_y hF rfl rfl (by decide) _ (y_assign rfl rfl) (fun a hF => ?_)
    refine vc_nil ?_
    refine hK13 _ _ ?_; clear  hK13 K13
    apply wp_ret
    refine vc_ret1 hF Tryd.results17 rfl ?_
    have hA23 : Hp w0 ([row rb 31 [hsv2, txv2, .int .i64 ((held + m.length : Nat) : Int)]] :: XH2 :: XT2 :: (qs.map pxS).flatten :: YH :: X2 :: R) w21 := Hp.sel [[row b16 24 [.slice A2 m.length c2]], X2, [row b5 32 [.pointer (some ⟨hb, 0, none⟩)]], YH, [row rb 31 [hsv2, txv2, .int .i64 ((held + m.length : Nat) : Int)]], XH2, XT2, (qs.map pxS).flatten] R [4, 5, 6, 7, 3, 1] [0, 2] hA22 rfl
    have hlen : (qs ++ [(⟨hb, m, YH, .slice A2 m.length c2, X2⟩ : PX)]).length = qs.length + 1 := by simp
    have hqs2 : ∀ q ∈ qs ++ [(⟨hb, m, YH, .slice A2 m.length c2, X2⟩ : PX)], PXok T q := fun q h => by
      rcases List.mem_append.1 h with h | h
      · exact hqs q h
      · rw [List.mem_singleton] at h
        subst h
        exact ⟨⟨hH, hB2⟩, hmT⟩
    have hHs3 : Buf 32 1 XH2 hsv2 (qs ++ [(⟨hb, m, YH, .slice A2 m.length c2, X2⟩ : PX)]).length ((qs ++ [(⟨hb, m, YH, .slice A2 m.length c2, X2⟩ : PX)]).map pxP) := by rw [hlen, List.map_append]; exact hHs2
    have hTx3 : Buf 24 1 XT2 txv2 (qs ++ [(⟨hb, m, YH, .slice A2 m.length c2, X2⟩ : PX)]).length ((qs ++ [(⟨hb, m, YH, .slice A2 m.length c2, X2⟩ : PX)]).map (·.tv)) := by rw [hlen, List.map_append]; exact hTx2
    exact ⟨_, rfl, ⟨qs ++ [(⟨hb, m, YH, .slice A2 m.length c2, X2⟩ : PX)], hsv2, txv2, XH2, XT2, hlen, hqs2, hHs3, hTx3, rfl⟩, hA23.cast (by simp [pxS])⟩

/-- a step of the play -/
structure StX where
  kind : Int
  h : Int
  p : List UInt8
  pA : Option Addr
  pC : Nat
def stC (o : StX) : List Value := [.int .i64 o.kind, .int .i64 o.h, .slice o.pA o.p.length o.pC]
def plFlip (b : UInt8) : UInt8 := b ^^^ 255
theorem pl_xor (b : UInt8) : bits .xor .u8 ((b.toNat : Nat) : Int) 255 = ((plFlip b).toNat : Int) := by
  rw [show (255 : Int) = ((255 : Nat) : Int) from rfl, u8_xor_nat _ _ b.toNat_lt (by decide)]
  rfl
theorem pl_set (bs : List UInt8) (i : Nat) (b : UInt8) : (dc bs).set (0 + i) (.int .u8 (b.toNat : Int)) = dc (bs.set i b) := by
  rw [Nat.zero_add]; unfold dc; rw [List.map_set]
theorem pl_roomyB (w0 w : World) (R : List Seg) (B : Option Addr) (l : List UInt8) (c : Nat) (hB : Rd w0 R B l) (hA : Hp w0 R w) (hl : l.length < 140737488354000) : Calls Tryd.prog 20 #[.slice B l.length c, .int .u8 165] w fun e w' => ∃ g, e = .returned (.slice (some ⟨g, 0, none⟩) (l.length + 80) (l.length + 80)) ∧ Hp w0 ([row g 5 (cel cB (l ++ List.replicate 80 165))] :: R) w' :=
  kb_roomy_byte w0 w R B l c 165 (by rw [← cel_dc]; exact hB) (fun _ _ => rfl) rfl hA hl
theorem pl_intactB (w0 w : World) (R : List Seg) (B B2 : Option Addr) (l : List UInt8) (c c2 : Nat) (hB : Rc w0 R B (cel cB (l ++ List.replicate 80 165))) (hB2 : Rd w0 R B2 l) (hc : l.length + 80 ≤ c) (hA : Hp w0 R w) (hl : l.length < 140737488354000) : Calls Tryd.prog 22 #[.slice B (l.length + 80) c, .slice B2 l.length c2, .int .u8 165] w fun e w' => e = .returned (.bool true) ∧ Hp w0 R w' :=
  kb_intact_byte w0 w R B B2 l c c2 165 hB (by rw [← cel_dc]; exact hB2) (fun _ _ => rfl) rfl hc hA hl

theorem px_in {X Y : Seg} {S : List Seg} (h : Y ⊆ X) (hX : X ∈ S) : Y ⊆ S.flatten := fun _ hr => List.mem_flatten.2 ⟨_, hX, h hr⟩
theorem pl_joinsN (w0 w : World) (R : List Seg) (rb T held : Nat) (qs : List PX) (hsv txv : Value) (XH XT : Seg) (hqs : ∀ q ∈ qs, PXok T q) (hHs : Buf 32 1 XH hsv qs.length (qs.map pxP)) (hTx : Buf 24 1 XT txv qs.length (qs.map (·.tv))) (hb : Nat) (m : List UInt8) (YH : Seg) (hH : HsS hb m YH) (A : Option Addr) (c k : Nat) (hk : k = m.length) (hR : Rd w0 ((qs.map pxS).flatten :: R) A m) (hmT : m.length ≤ T) (hT : T < 70368744177664) (hheld : held ≤ 4000000) (hn : qs.length < 1000000000) (hA : Hp w0 (YH :: [row rb 31 [hsv, txv, .int .i64 ((held : Nat) : Int)]] :: XH :: XT :: (qs.map pxS).flatten :: R) w) : Calls Tryd.prog 17 #[.pointer (some ⟨rb, 0, none⟩), .pointer (some ⟨hb, 0, none⟩), .slice A k c] w fun e w' => ∃ Y', e = .returned (.bool true) ∧ RowOK rb (qs.length + 1) T (held + m.length) Y' ∧ Hp w0 (Y' :: R) w' := by
  subst hk; exact pl_joins w0 w R rb T held qs hsv txv XH XT hqs hHs hTx hb m YH hH A c hR hmT hT hheld hn hA
theorem hc_writeN (w0 w : World) (R : List Seg) (hb : Nat) (m : List UInt8) (Y : Seg) (A : Option Addr) (l : List UInt8) (c k : Nat) (hk : k = l.length) (hT : Tab w0) (hY : HsS hb m Y) (hR : Rd w0 R A l) (hc : l.length ≤ c) (hA : Hp w0 (Y :: R) w) (hl : m.length + l.length < 1152921504606846976) : Calls Tryd.prog 14 #[.pointer (some ⟨hb, 0, none⟩), .slice A k c] w fun e w' => ∃ Y', e = .returned (.tuple #[]) ∧ HsS hb (m ++ l) Y' ∧ Hp w0 (Y' :: R) w' := by
  subst hk; exact hc_write w0 w R hb m Y A l c hT hY hR hc hA hl

set_option maxRecDepth 100000 in
set_option maxHeartbeats 4000000 in
theorem pl_plays (w0 w : World) (R : List Seg) (rb n T held : Nat) (Y : Seg) (o : StX) (hT : Tab w0) (hP : Rd w0 R o.pA o.p) (hpC : o.p.length ≤ o.pC) (hrow : RowOK rb n T held Y) (hn : 0 < n) (hnb : n ≤ 1000) (hheld : held ≤ 4000000) (hTb : T + 2 * o.p.length < 70368744177664) (hA : Hp w0 (Y :: R) w) : Calls Tryd.prog 18 #[.pointer (some ⟨rb, 0, none⟩), .agg (stC o).toArray] w fun e w' => ∃ n' held' Y', e = .returned (.bool true) ∧ (n ≤ n' ∧ n' ≤ 1000) ∧ held' ≤ 4000000 ∧ RowOK rb n' (T + 2 * o.p.length) held' Y' ∧ Hp w0 (Y' :: R) w' := by
  obtain ⟨qs, hsv, txv, XH, XT, hn0, hqs, hHs, hTx, rfl⟩ := hrow
  subst hn0
  replace hA : Hp w0 ([row rb 31 [hsv, txv, .int .i64 ((held : Nat) : Int)]] :: XH :: XT :: (qs.map pxS).flatten :: R) w := hA.cast (by simp)
  obtain ⟨hwi1, hwi2⟩ := within_le o.h 0 ((qs.length : Int) - 1) (by omega)
  obtain ⟨i, hi⟩ := Int.eq_ofNat_of_zero_le hwi1
  have hiq : i < qs.length := by omega
  obtain ⟨AH, cH, rfl, _, hRH⟩ := hHs.rc (w0 := w0) (R := [XH]) (List.mem_cons_self ..)
  have hiH : i < (qs.map pxP).length := by rw [List.length_map]; exact hiq
  obtain ⟨bH, pH, rfl, hcH⟩ := hRH.ne (i := i) hiH
  obtain ⟨gT, BT, ZT, cT, rfl, rfl, hWl, hTset⟩ := hTx.setAt (i := i) hiq
  have hiT : i < (qs.map (·.tv)).length := by rw [List.length_map]; exact hiq
  obtain ⟨_, _, e1, _, hRT⟩ := hTx.rc (w0 := w0) (R := [[row gT 24 (BT ++ qs.map (·.tv) ++ ZT)]]) (List.mem_cons_self ..)
  injection e1 with e1 _ _
  subst e1
  obtain ⟨_, _, e2, hcT⟩ := hRT.ne (i := i) hiT
  injection e2 with e2
  injection e2 with e3 e4
  subst e3 e4
  have hlT : BT.length + i < (BT ++ qs.map (·.tv) ++ ZT).length := by rw [List.length_append, List.length_append, hWl]; omega
  obtain ⟨⟨hb, m, Yq, tv, Zq⟩, hq⟩ : ∃ q, qs[i]? = some q := ⟨_, List.getElem?_eq_getElem hiq⟩
  obtain ⟨⟨hYq, hZq⟩, hmT⟩ : (HsS hb m Yq ∧ Buf 5 1 Zq tv m.length (dc m)) ∧ m.length ≤ T := hqs _ (List.mem_of_getElem? hq)
  obtain ⟨Am, cm, rfl, hcm⟩ := hZq.slice
  have hqP : (qs.map pxP)[i]? = some (.pointer (some ⟨hb, 0, none⟩)) := by rw [List.getElem?_map, hq]; rfl
  have hqT : (qs.map (·.tv))[i]? = some (.slice Am m.length cm) := by rw [List.getElem?_map, hq]; rfl
  have hqS : (qs.map pxS)[i]? = some (Yq ++ Zq) := by rw [List.getElem?_map, hq]; rfl
  have hRm : Rd w0 [(qs.map pxS).flatten] Am m := by
    obtain ⟨_, _, _, e1, _, h1⟩ := hZq.rd (w0 := w0) (R := [Zq]) (List.mem_cons_self ..)
    injection e1 with e1 _ _
    rw [e1]
    refine h1.monoF (fun r hr => ?_)
    rw [List.flatten_cons, List.flatten_nil, List.append_nil] at hr ⊢
    exact px_subZ hq hr
  have hYf : Yq ⊆ (qs.map pxS).flatten := px_sub hq
  refine vc_enter Tryd.func18 rfl Tryd.ntmps18 (Nat.le_of_ble_eq_true rfl) (fun a hF => ?_)
  apply wp_seq_k; intro K1 hK1
  refine wp_region_lit ?_
  refine vc_op rfl (fun K hK => hs_box (cs := [.int .i64 o.kind, .int .i64 o.h, .slice o.pA o.p.length o.pC]) hF rfl (by decide) rfl hA rfl (fun b1 w2 a hb1 hF hA3 => hK _ _ ?_))
  clear hK K
  replace hA3 : Hp w0 ([row b1 26 [.int .i64 o.kind, .int .i64 o.h, .slice o.pA o.p.length o.pC]] :: [row rb 31 [.slice (some ⟨bH, pH, none⟩) qs.length cH, .slice (some ⟨gT, BT.length, none⟩) qs.length cT, .int .i64 ((held : Nat) : Int)]] :: XH :: [row gT 24 (BT ++ qs.map (·.tv) ++ ZT)] :: (qs.map pxS).flatten :: R) w2 := hA3
  refine vc_y hF rfl rfl (by decide) _ (y_assign rfl rfl) (fun a hF => ?_)
  refine vc_nil ?_
  refine hK1 _ _ ?_; clear  hK1 K1
  apply wp_seq_k; intro K2 hK2
  refine wp_region_plan 9 [8,9] [0,1,2,3,4,5,6,7,8,9] (fun x => Hq w0 ([row b1 26 [.int .i64 o.kind, .int .i64 o.h, .slice o.pA o.p.length o.pC]] :: [row rb 31 [.slice (some ⟨bH, pH, none⟩) qs.length cH, .slice (some ⟨gT, BT.length, none⟩) qs.length cT, .int .i64 ((held : Nat) : Int)]] :: XH :: [row gT 24 (BT ++ qs.map (·.tv) ++ ZT)] :: (qs.map pxS).flatten :: R) x) (by kernel_rfl) (by kernel_rfl) (Hq.drew (Hp.qp [[row b1 26 [.int .i64 o.kind, .int .i64 o.h, .slice o.pA o.p.length o.pC]], [row rb 31 [.slice (some ⟨bH, pH, none⟩) qs.length cH, .slice (some ⟨gT, BT.length, none⟩) qs.length cT, .int .i64 ((held : Nat) : Int)]], XH, [row gT 24 (BT ++ qs.map (·.tv) ++ ZT)], (qs.map pxS).flatten] R [0, 1, 2, 3, 4] hA3)) ?_
  have hA4 := Hl.drew hA3
  refine vp_y hF rfl rfl rfl rfl (by decide) _ (fun x hx => y_field rfl Tryd.underlying26 rfl sz3_pl (by decide) rfl (rfl : (⟨_, 0 + _, none⟩ : Addr) = ⟨_, 1, none⟩)) (fun a hF => ?_)
  refine vp_y hF rfl rfl rfl rfl (by decide) _ (fun x hx => y_ld rfl hx rfl 0 rfl rfl nr3_pl) (fun a hF => ?_)
  refine vp_y hF rfl rfl rfl rfl (by decide) _ (fun x hx => y_move rfl rfl) (fun a hF => ?_)
  refine vp_y hF rfl rfl rfl rfl (by decide) _ (fun x hx => y_nilCheck rfl rfl) (fun a hF => ?_)
  refine vp_y hF rfl rfl rfl rfl (by decide) _ (fun x hx => y_field rfl Tryd.underlying31 rfl sz28_pl (by decide) rfl (rfl : (⟨_, 0 + _, none⟩ : Addr) = ⟨_, 0, none⟩)) (fun a hF => ?_)
  refine vp_y hF rfl rfl rfl rfl (by decide) _ (fun x hx => y_ld rfl hx rfl 1 rfl rfl nr28_pl) (fun a hF => ?_)
  refine vp_y hF rfl rfl rfl rfl (by decide) _ (fun x hx => y_lenSl rfl Tryd.underlying28 rfl rfl) (fun a hF => ?_)
  refine vp_y hF rfl rfl rfl rfl (by decide) _ (fun x hx => y_sub rfl rfl rfl (IntWalk.i64_in _ (by omega))) (fun a hF => ?_)
  refine vp_l rfl rfl rfl (fun K hK => ws_call hF rfl (by decide) cl53_pl rfl rfl ?_)
  with_reducible refine (bk_within w2.drew o.h 0 ((qs.length : Int) - 1) (by decide) (by omega) (by omega) ).mono ?_
  rintro e' w7 ⟨rfl, rfl⟩
  refine ⟨_, rfl, fun a hF => hK _ _ (fun _ => ?_) ?_⟩
  · exact Hp.qp [[row b1 26 [.int .i64 o.kind, .int .i64 o.h, .slice o.pA o.p.length o.pC]], [row rb 31 [.slice (some ⟨bH, pH, none⟩) qs.length cH, .slice (some ⟨gT, BT.length, none⟩) qs.length cT, .int .i64 ((held : Nat) : Int)]], XH, [row gT 24 (BT ++ qs.map (·.tv) ++ ZT)], (qs.map pxS).flatten] R [0, 1, 2, 3, 4] hA4
  clear hK K
  rw [hi] at hF
  refine vp_ly hF rfl rfl rfl rfl (by decide) _ (y_assign rfl rfl) (fun h => absurd h (by decide)) (fun a hF => ?_)
  refine plan_end ?_
  refine hK2 _ _ ?_; clear  hK2 K2
  apply wp_seq_k; intro K3 hK3
  apply wp_seq_k; intro K4 hK4
  by_cases k1 : o.kind = 1
  · by_cases hge : 1000 ≤ qs.length
    · refine wp_region_plan 31 [31] [0,1,2,3,4,5,6,7,8,9,10,11,12,13,14,15,16,17,18,19,20,21,22,23,24,25,26,27,28,29,30,31] (fun x => Hq w0 ([row b1 26 [.int .i64 o.kind, .int .i64 o.h, .slice o.pA o.p.length o.pC]] :: [row rb 31 [.slice (some ⟨bH, pH, none⟩) qs.length cH, .slice (some ⟨gT, BT.length, none⟩) qs.length cT, .int .i64 ((held : Nat) : Int)]] :: XH :: [row gT 24 (BT ++ qs.map (·.tv) ++ ZT)] :: (qs.map pxS).flatten :: R) x) (by kernel_rfl) (by kernel_rfl) (Hq.drew (Hp.qp [[row b1 26 [.int .i64 o.kind, .int .i64 o.h, .slice o.pA o.p.length o.pC]], [row rb 31 [.slice (some ⟨bH, pH, none⟩) qs.length cH, .slice (some ⟨gT, BT.length, none⟩) qs.length cT, .int .i64 ((held : Nat) : Int)]], XH, [row gT 24 (BT ++ qs.map (·.tv) ++ ZT)], (qs.map pxS).flatten] R [0, 1, 2, 3, 4] hA4)) ?_
      have hA8 := Hl.drew hA4
      refine vp_y hF rfl rfl rfl rfl (by decide) _ (fun x hx => y_field rfl Tryd.underlying26 rfl sz3_pl (by decide) rfl (rfl : (⟨_, 0 + _, none⟩ : Addr) = ⟨_, 0, none⟩)) (fun a hF => ?_)
      refine vp_y hF rfl rfl rfl rfl (by decide) _ (fun x hx => y_ld rfl hx rfl 0 rfl rfl nr3_pl) (fun a hF => ?_)
      refine vp_y hF rfl rfl rfl rfl (by decide) _ (fun x hx => y_cmp rfl rfl rfl rfl (eql_t (by omega))) (fun a hF => ?_)
      refine vp_y hF rfl rfl rfl rfl (by decide) _ (fun x hx => y_move rfl rfl) (fun a hF => ?_)
      refine vp_skip hF rfl rfl rfl rfl rfl rfl rfl rfl (by decide) (fun a hF => ?_)
      refine vp_skip hF rfl rfl rfl rfl rfl rfl rfl rfl (by decide) (fun a hF => ?_)
      refine vp_skip hF rfl rfl rfl rfl rfl rfl rfl rfl (by decide) (fun a hF => ?_)
      refine vp_y hF rfl rfl rfl rfl (by decide) _ (fun x hx => y_pick rfl rfl rfl) (fun a hF => ?_)
      refine vp_y hF rfl rfl rfl rfl (by decide) _ (fun x hx => y_move rfl rfl) (fun a hF => ?_)
      refine vp_yg hF rfl rfl rfl rfl rfl rfl rfl (by decide) _ (fun x hx => y_move rfl rfl) (fun a hF => ?_)
      refine vp_yg hF rfl rfl rfl rfl rfl rfl rfl (by decide) _ (fun x hx => y_nilCheck rfl rfl) (fun a hF => ?_)
      refine vp_yg hF rfl rfl rfl rfl rfl rfl rfl (by decide) _ (fun x hx => y_field rfl Tryd.underlying31 rfl sz28_pl (by decide) rfl (rfl : (⟨_, 0 + _, none⟩ : Addr) = ⟨_, 0, none⟩)) (fun a hF => ?_)
      refine vp_yg hF rfl rfl rfl rfl rfl rfl rfl (by decide) _ (fun x hx => y_ld rfl hx rfl 1 rfl rfl nr28_pl) (fun a hF => ?_)
      refine vp_yg hF rfl rfl rfl rfl rfl rfl rfl (by decide) _ (fun x hx => y_lenSl rfl Tryd.underlying28 rfl rfl) (fun a hF => ?_)
      refine vp_yg hF rfl rfl rfl rfl rfl rfl rfl (by decide) _ (fun x hx => y_cmp rfl rfl rfl rfl (geq_t (by omega))) (fun a hF => ?_)
      refine vp_yg hF rfl rfl rfl rfl rfl rfl rfl (by decide) _ (fun x hx => y_move rfl rfl) (fun a hF => ?_)
      refine vp_skip hF rfl rfl rfl rfl rfl rfl rfl rfl (by decide) (fun a hF => ?_)
      refine vp_skip hF rfl rfl rfl rfl rfl rfl rfl rfl (by decide) (fun a hF => ?_)
      refine vp_skip hF rfl rfl rfl rfl rfl rfl rfl rfl (by decide) (fun a hF => ?_)
      refine vp_skip hF rfl rfl rfl rfl rfl rfl rfl rfl (by decide) (fun a hF => ?_)
      refine vp_skip hF rfl rfl rfl rfl rfl rfl rfl rfl (by decide) (fun a hF => ?_)
      refine vp_skip hF rfl rfl rfl rfl rfl rfl rfl rfl (by decide) (fun a hF => ?_)
      refine vp_skip hF rfl rfl rfl rfl rfl rfl rfl rfl (by decide) (fun a hF => ?_)
      refine vp_skip hF rfl rfl rfl rfl rfl rfl rfl rfl (by decide) (fun a hF => ?_)
      refine vp_skip hF rfl rfl rfl rfl rfl rfl rfl rfl (by decide) (fun a hF => ?_)
      refine vp_skip hF rfl rfl rfl rfl rfl rfl rfl rfl (by decide) (fun a hF => ?_)
      refine vp_skip hF rfl rfl rfl rfl rfl rfl rfl rfl (by decide) (fun a hF => ?_)
      refine vp_skip hF rfl rfl rfl rfl rfl rfl rfl rfl (by decide) (fun a hF => ?_)
      refine vp_skip hF rfl rfl rfl rfl rfl rfl rfl rfl (by decide) (fun a hF => ?_)
      refine vp_skip hF rfl rfl rfl rfl rfl rfl rfl rfl (by decide) (fun a hF => ?_)
      refine vp_yg hF rfl rfl rfl rfl rfl rfl rfl (by decide) _ (fun x hx => y_pick rfl rfl rfl) (fun a hF => ?_)
      refine vp_ly hF rfl rfl rfl rfl (by decide) _ (y_pick rfl rfl rfl) (fun h => absurd h (by decide)) (fun a hF => ?_)
      refine plan_end ?_
      refine hK4 _ _ ?_; clear  hK4 K4
      refine vc_true hF rfl ?_
      apply wp_seq_k; intro K5 hK5
      refine wp_region_lit ?_
      refine vc_y hF rfl rfl (by decide) _ (y_assign rfl rfl) (fun a hF => ?_)
      refine vc_nil ?_
      refine hK5 _ _ ?_; clear  hK5 K5
      apply wp_ret
      simp only [Exit.then]
      refine vc_ret1 hF Tryd.results18 rfl ?_
      have hA9 : Hp w0 ([row rb 31 [.slice (some ⟨bH, pH, none⟩) qs.length cH, .slice (some ⟨gT, BT.length, none⟩) qs.length cT, .int .i64 ((held : Nat) : Int)]] :: XH :: [row gT 24 (BT ++ qs.map (·.tv) ++ ZT)] :: (qs.map pxS).flatten :: R) w2.drew.drew := Hp.sel [[row b1 26 [.int .i64 o.kind, .int .i64 o.h, .slice o.pA o.p.length o.pC]], [row rb 31 [.slice (some ⟨bH, pH, none⟩) qs.length cH, .slice (some ⟨gT, BT.length, none⟩) qs.length cT, .int .i64 ((held : Nat) : Int)]], XH, [row gT 24 (BT ++ qs.map (·.tv) ++ ZT)], (qs.map pxS).flatten] R [1, 2, 3, 4] [0] hA8 rfl
      exact ⟨qs.length, held, _, rfl, ⟨Nat.le_refl _, hnb⟩, hheld, ⟨qs, _, _, XH, _, rfl, fun q h => ⟨(hqs q h).1, Nat.le_trans (hqs q h).2 (by omega)⟩, hHs, hTx, rfl⟩, hA9.cast (by simp)⟩
    · by_cases hgt : 4000000 < held + m.length
      · refine wp_region_plan 31 [31] [0,1,2,3,4,5,6,7,8,9,10,11,12,13,14,15,16,17,18,19,20,21,22,23,24,25,26,27,28,29,30,31] (fun x => Hq w0 ([row b1 26 [.int .i64 o.kind, .int .i64 o.h, .slice o.pA o.p.length o.pC]] :: [row rb 31 [.slice (some ⟨bH, pH, none⟩) qs.length cH, .slice (some ⟨gT, BT.length, none⟩) qs.length cT, .int .i64 ((held : Nat) : Int)]] :: XH :: [row gT 24 (BT ++ qs.map (·.tv) ++ ZT)] :: (qs.map pxS).flatten :: R) x) (by kernel_rfl) (by kernel_rfl) (Hq.drew (Hp.qp [[row b1 26 [.int .i64 o.kind, .int .i64 o.h, .slice o.pA o.p.length o.pC]], [row rb 31 [.slice (some ⟨bH, pH, none⟩) qs.length cH, .slice (some ⟨gT, BT.length, none⟩) qs.length cT, .int .i64 ((held : Nat) : Int)]], XH, [row gT 24 (BT ++ qs.map (·.tv) ++ ZT)], (qs.map pxS).flatten] R [0, 1, 2, 3, 4] hA4)) ?_
        have hA10 := Hl.drew hA4
        refine vp_y hF rfl rfl rfl rfl (by decide) _ (fun x hx => y_field rfl Tryd.underlying26 rfl sz3_pl (by decide) rfl (rfl : (⟨_, 0 + _, none⟩ : Addr) = ⟨_, 0, none⟩)) (fun a hF => ?_)
        refine vp_y hF rfl rfl rfl rfl (by decide) _ (fun x hx => y_ld rfl hx rfl 0 rfl rfl nr3_pl) (fun a hF => ?_)
        refine vp_y hF rfl rfl rfl rfl (by decide) _ (fun x hx => y_cmp rfl rfl rfl rfl (eql_t (by omega))) (fun a hF => ?_)
        refine vp_y hF rfl rfl rfl rfl (by decide) _ (fun x hx => y_move rfl rfl) (fun a hF => ?_)
        refine vp_skip hF rfl rfl rfl rfl rfl rfl rfl rfl (by decide) (fun a hF => ?_)
        refine vp_skip hF rfl rfl rfl rfl rfl rfl rfl rfl (by decide) (fun a hF => ?_)
        refine vp_skip hF rfl rfl rfl rfl rfl rfl rfl rfl (by decide) (fun a hF => ?_)
        refine vp_y hF rfl rfl rfl rfl (by decide) _ (fun x hx => y_pick rfl rfl rfl) (fun a hF => ?_)
        refine vp_y hF rfl rfl rfl rfl (by decide) _ (fun x hx => y_move rfl rfl) (fun a hF => ?_)
        refine vp_yg hF rfl rfl rfl rfl rfl rfl rfl (by decide) _ (fun x hx => y_move rfl rfl) (fun a hF => ?_)
        refine vp_yg hF rfl rfl rfl rfl rfl rfl rfl (by decide) _ (fun x hx => y_nilCheck rfl rfl) (fun a hF => ?_)
        refine vp_yg hF rfl rfl rfl rfl rfl rfl rfl (by decide) _ (fun x hx => y_field rfl Tryd.underlying31 rfl sz28_pl (by decide) rfl (rfl : (⟨_, 0 + _, none⟩ : Addr) = ⟨_, 0, none⟩)) (fun a hF => ?_)
        refine vp_yg hF rfl rfl rfl rfl rfl rfl rfl (by decide) _ (fun x hx => y_ld rfl hx rfl 1 rfl rfl nr28_pl) (fun a hF => ?_)
        refine vp_yg hF rfl rfl rfl rfl rfl rfl rfl (by decide) _ (fun x hx => y_lenSl rfl Tryd.underlying28 rfl rfl) (fun a hF => ?_)
        refine vp_yg hF rfl rfl rfl rfl rfl rfl rfl (by decide) _ (fun x hx => y_cmp rfl rfl rfl rfl (geq_f (by omega))) (fun a hF => ?_)
        refine vp_yg hF rfl rfl rfl rfl rfl rfl rfl (by decide) _ (fun x hx => y_move rfl rfl) (fun a hF => ?_)
        refine vp_yg hF rfl rfl rfl rfl rfl rfl rfl (by decide) _ (fun x hx => y_move rfl rfl) (fun a hF => ?_)
        refine vp_yg hF rfl rfl rfl rfl rfl rfl rfl (by decide) _ (fun x hx => y_nilCheck rfl rfl) (fun a hF => ?_)
        refine vp_yg hF rfl rfl rfl rfl rfl rfl rfl (by decide) _ (fun x hx => y_field rfl Tryd.underlying31 rfl sz3_pl (by decide) rfl (rfl : (⟨_, 0 + _, none⟩ : Addr) = ⟨_, 2, none⟩)) (fun a hF => ?_)
        refine vp_yg hF rfl rfl rfl rfl rfl rfl rfl (by decide) _ (fun x hx => y_ld rfl hx rfl 1 rfl rfl nr3_pl) (fun a hF => ?_)
        refine vp_yg hF rfl rfl rfl rfl rfl rfl rfl (by decide) _ (fun x hx => y_move rfl rfl) (fun a hF => ?_)
        refine vp_yg hF rfl rfl rfl rfl rfl rfl rfl (by decide) _ (fun x hx => y_nilCheck rfl rfl) (fun a hF => ?_)
        refine vp_yg hF rfl rfl rfl rfl rfl rfl rfl (by decide) _ (fun x hx => y_field rfl Tryd.underlying31 rfl sz29_pl (by decide) rfl (rfl : (⟨_, 0 + _, none⟩ : Addr) = ⟨_, 1, none⟩)) (fun a hF => ?_)
        refine vp_yg hF rfl rfl rfl rfl rfl rfl rfl (by decide) _ (fun x hx => y_ld rfl hx rfl 1 rfl rfl nr29_pl) (fun a hF => ?_)
        refine vp_yg hF rfl rfl rfl rfl rfl rfl rfl (by decide) _ (fun x hx => y_move rfl rfl) (fun a hF => ?_)
        refine vp_yg hF rfl rfl rfl rfl rfl rfl rfl (by decide) _ (fun x hx => y_ixSl rfl Tryd.underlying29 sz24_pl rfl rfl i rfl hiq (ad2 _ _ _)) (fun a hF => ?_)
        refine vp_yg hF rfl rfl rfl rfl rfl rfl rfl (by decide) _ (fun x hx => y_ldC (u := .slice Am m.length cm) rfl (Hq.sub hx (sub1 (List.mem_cons_of_mem _ (List.mem_cons_of_mem _ (List.mem_cons_of_mem _ ((List.mem_cons_self ..))))))) rfl hcT i hiT rfl hqT nr24_pl) (fun a hF => ?_)
        refine vp_yg hF rfl rfl rfl rfl rfl rfl rfl (by decide) _ (fun x hx => y_lenSl rfl Tryd.underlying24 rfl rfl) (fun a hF => ?_)
        refine vp_yg hF rfl rfl rfl rfl rfl rfl rfl (by decide) _ (fun x hx => y_add (r := ((held + m.length : Nat) : Int)) rfl rfl rfl (by rw [IntWalk.i64_in _ (by omega)]; omega)) (fun a hF => ?_)
        refine vp_yg hF rfl rfl rfl rfl rfl rfl rfl (by decide) _ (fun x hx => y_cmp rfl rfl rfl rfl (gtr_t (by omega))) (fun a hF => ?_)
        refine vp_yg hF rfl rfl rfl rfl rfl rfl rfl (by decide) _ (fun x hx => y_pick rfl rfl rfl) (fun a hF => ?_)
        refine vp_ly hF rfl rfl rfl rfl (by decide) _ (y_pick rfl rfl rfl) (fun h => absurd h (by decide)) (fun a hF => ?_)
        refine plan_end ?_
        refine hK4 _ _ ?_; clear  hK4 K4
        refine vc_true hF rfl ?_
        apply wp_seq_k; intro K6 hK6
        refine wp_region_lit ?_
        refine vc_y hF rfl rfl (by decide) _ (y_assign rfl rfl) (fun a hF => ?_)
        refine vc_nil ?_
        refine hK6 _ _ ?_; clear  hK6 K6
        apply wp_ret
        simp only [Exit.then]
        refine vc_ret1 hF Tryd.results18 rfl ?_
        have hA11 : Hp w0 ([row rb 31 [.slice (some ⟨bH, pH, none⟩) qs.length cH, .slice (some ⟨gT, BT.length, none⟩) qs.length cT, .int .i64 ((held : Nat) : Int)]] :: XH :: [row gT 24 (BT ++ qs.map (·.tv) ++ ZT)] :: (qs.map pxS).flatten :: R) w2.drew.drew := Hp.sel [[row b1 26 [.int .i64 o.kind, .int .i64 o.h, .slice o.pA o.p.length o.pC]], [row rb 31 [.slice (some ⟨bH, pH, none⟩) qs.length cH, .slice (some ⟨gT, BT.length, none⟩) qs.length cT, .int .i64 ((held : Nat) : Int)]], XH, [row gT 24 (BT ++ qs.map (·.tv) ++ ZT)], (qs.map pxS).flatten] R [1, 2, 3, 4] [0] hA10 rfl
        exact ⟨qs.length, held, _, rfl, ⟨Nat.le_refl _, hnb⟩, hheld, ⟨qs, _, _, XH, _, rfl, fun q h => ⟨(hqs q h).1, Nat.le_trans (hqs q h).2 (by omega)⟩, hHs, hTx, rfl⟩, hA11.cast (by simp)⟩
      · refine wp_region_plan 31 [31] [0,1,2,3,4,5,6,7,8,9,10,11,12,13,14,15,16,17,18,19,20,21,22,23,24,25,26,27,28,29,30,31] (fun x => Hq w0 ([row b1 26 [.int .i64 o.kind, .int .i64 o.h, .slice o.pA o.p.length o.pC]] :: [row rb 31 [.slice (some ⟨bH, pH, none⟩) qs.length cH, .slice (some ⟨gT, BT.length, none⟩) qs.length cT, .int .i64 ((held : Nat) : Int)]] :: XH :: [row gT 24 (BT ++ qs.map (·.tv) ++ ZT)] :: (qs.map pxS).flatten :: R) x) (by kernel_rfl) (by kernel_rfl) (Hq.drew (Hp.qp [[row b1 26 [.int .i64 o.kind, .int .i64 o.h, .slice o.pA o.p.length o.pC]], [row rb 31 [.slice (some ⟨bH, pH, none⟩) qs.length cH, .slice (some ⟨gT, BT.length, none⟩) qs.length cT, .int .i64 ((held : Nat) : Int)]], XH, [row gT 24 (BT ++ qs.map (·.tv) ++ ZT)], (qs.map pxS).flatten] R [0, 1, 2, 3, 4] hA4)) ?_
        have hA12 := Hl.drew hA4
        refine vp_y hF rfl rfl rfl rfl (by decide) _ (fun x hx => y_field rfl Tryd.underlying26 rfl sz3_pl (by decide) rfl (rfl : (⟨_, 0 + _, none⟩ : Addr) = ⟨_, 0, none⟩)) (fun a hF => ?_)
        refine vp_y hF rfl rfl rfl rfl (by decide) _ (fun x hx => y_ld rfl hx rfl 0 rfl rfl nr3_pl) (fun a hF => ?_)
        refine vp_y hF rfl rfl rfl rfl (by decide) _ (fun x hx => y_cmp rfl rfl rfl rfl (eql_t (by omega))) (fun a hF => ?_)
        refine vp_y hF rfl rfl rfl rfl (by decide) _ (fun x hx => y_move rfl rfl) (fun a hF => ?_)
        refine vp_skip hF rfl rfl rfl rfl rfl rfl rfl rfl (by decide) (fun a hF => ?_)
        refine vp_skip hF rfl rfl rfl rfl rfl rfl rfl rfl (by decide) (fun a hF => ?_)
        refine vp_skip hF rfl rfl rfl rfl rfl rfl rfl rfl (by decide) (fun a hF => ?_)
        refine vp_y hF rfl rfl rfl rfl (by decide) _ (fun x hx => y_pick rfl rfl rfl) (fun a hF => ?_)
        refine vp_y hF rfl rfl rfl rfl (by decide) _ (fun x hx => y_move rfl rfl) (fun a hF => ?_)
        refine vp_yg hF rfl rfl rfl rfl rfl rfl rfl (by decide) _ (fun x hx => y_move rfl rfl) (fun a hF => ?_)
        refine vp_yg hF rfl rfl rfl rfl rfl rfl rfl (by decide) _ (fun x hx => y_nilCheck rfl rfl) (fun a hF => ?_)
        refine vp_yg hF rfl rfl rfl rfl rfl rfl rfl (by decide) _ (fun x hx => y_field rfl Tryd.underlying31 rfl sz28_pl (by decide) rfl (rfl : (⟨_, 0 + _, none⟩ : Addr) = ⟨_, 0, none⟩)) (fun a hF => ?_)
        refine vp_yg hF rfl rfl rfl rfl rfl rfl rfl (by decide) _ (fun x hx => y_ld rfl hx rfl 1 rfl rfl nr28_pl) (fun a hF => ?_)
        refine vp_yg hF rfl rfl rfl rfl rfl rfl rfl (by decide) _ (fun x hx => y_lenSl rfl Tryd.underlying28 rfl rfl) (fun a hF => ?_)
        refine vp_yg hF rfl rfl rfl rfl rfl rfl rfl (by decide) _ (fun x hx => y_cmp rfl rfl rfl rfl (geq_f (by omega))) (fun a hF => ?_)
        refine vp_yg hF rfl rfl rfl rfl rfl rfl rfl (by decide) _ (fun x hx => y_move rfl rfl) (fun a hF => ?_)
        refine vp_yg hF rfl rfl rfl rfl rfl rfl rfl (by decide) _ (fun x hx => y_move rfl rfl) (fun a hF => ?_)
        refine vp_yg hF rfl rfl rfl rfl rfl rfl rfl (by decide) _ (fun x hx => y_nilCheck rfl rfl) (fun a hF => ?_)
        refine vp_yg hF rfl rfl rfl rfl rfl rfl rfl (by decide) _ (fun x hx => y_field rfl Tryd.underlying31 rfl sz3_pl (by decide) rfl (rfl : (⟨_, 0 + _, none⟩ : Addr) = ⟨_, 2, none⟩)) (fun a hF => ?_)
        refine vp_yg hF rfl rfl rfl rfl rfl rfl rfl (by decide) _ (fun x hx => y_ld rfl hx rfl 1 rfl rfl nr3_pl) (fun a hF => ?_)
        refine vp_yg hF rfl rfl rfl rfl rfl rfl rfl (by decide) _ (fun x hx => y_move rfl rfl) (fun a hF => ?_)
        refine vp_yg hF rfl rfl rfl rfl rfl rfl rfl (by decide) _ (fun x hx => y_nilCheck rfl rfl) (fun a hF => ?_)
        refine vp_yg hF rfl rfl rfl rfl rfl rfl rfl (by decide) _ (fun x hx => y_field rfl Tryd.underlying31 rfl sz29_pl (by decide) rfl (rfl : (⟨_, 0 + _, none⟩ : Addr) = ⟨_, 1, none⟩)) (fun a hF => ?_)
        refine vp_yg hF rfl rfl rfl rfl rfl rfl rfl (by decide) _ (fun x hx => y_ld rfl hx rfl 1 rfl rfl nr29_pl) (fun a hF => ?_)
        refine vp_yg hF rfl rfl rfl rfl rfl rfl rfl (by decide) _ (fun x hx => y_move rfl rfl) (fun a hF => ?_)
        refine vp_yg hF rfl rfl rfl rfl rfl rfl rfl (by decide) _ (fun x hx => y_ixSl rfl Tryd.underlying29 sz24_pl rfl rfl i rfl hiq (ad2 _ _ _)) (fun a hF => ?_)
        refine vp_yg hF rfl rfl rfl rfl rfl rfl rfl (by decide) _ (fun x hx => y_ldC (u := .slice Am m.length cm) rfl (Hq.sub hx (sub1 (List.mem_cons_of_mem _ (List.mem_cons_of_mem _ (List.mem_cons_of_mem _ ((List.mem_cons_self ..))))))) rfl hcT i hiT rfl hqT nr24_pl) (fun a hF => ?_)
        refine vp_yg hF rfl rfl rfl rfl rfl rfl rfl (by decide) _ (fun x hx => y_lenSl rfl Tryd.underlying24 rfl rfl) (fun a hF => ?_)
        refine vp_yg hF rfl rfl rfl rfl rfl rfl rfl (by decide) _ (fun x hx => y_add (r := ((held + m.length : Nat) : Int)) rfl rfl rfl (by rw [IntWalk.i64_in _ (by omega)]; omega)) (fun a hF => ?_)
        refine vp_yg hF rfl rfl rfl rfl rfl rfl rfl (by decide) _ (fun x hx => y_cmp rfl rfl rfl rfl (gtr_f (by omega))) (fun a hF => ?_)
        refine vp_yg hF rfl rfl rfl rfl rfl rfl rfl (by decide) _ (fun x hx => y_pick rfl rfl rfl) (fun a hF => ?_)
        refine vp_ly hF rfl rfl rfl rfl (by decide) _ (y_pick rfl rfl rfl) (fun h => absurd h (by decide)) (fun a hF => ?_)
        refine plan_end ?_
        refine hK4 _ _ ?_; clear  hK4 K4
        refine vc_false hF rfl ?_
        apply wp_skip
        refine hK3 _ _ ?_; clear  hK3 K3
        apply wp_seq_k; intro K7 hK7
        apply wp_seq_k; intro K8 hK8
        refine wp_region_lit ?_
        refine vc_y hF rfl rfl (by decide) _ (y_field rfl Tryd.underlying26 rfl sz3_pl (by decide) rfl (rfl : (⟨_, 0 + _, none⟩ : Addr) = ⟨_, 0, none⟩)) (fun a hF => ?_)
        refine vc_y hF rfl rfl (by decide) _ (y_ld rfl hA12.q rfl 0 rfl rfl nr3_pl) (fun a hF => ?_)
        refine vc_nil ?_
        refine hK8 _ _ ?_; clear  hK8 K8
        apply wp_block
        apply wp_seq_k; intro K9 hK9
        refine wp_region_lit ?_
        refine vc_y hF rfl rfl (by decide) _ (y_cmp rfl rfl rfl rfl rfl) (fun a hF => ?_)
        refine vc_y hF rfl rfl (by decide) _ (y_assign rfl rfl) (fun a hF => ?_)
        refine vc_nil ?_
        refine hK9 _ _ ?_; clear  hK9 K9
        refine vc_trueB hF rfl (eql_t (by omega)) ?_
        apply wp_seq_k; intro K10 hK10
        refine wp_region_lit ?_
        refine vc_y hF rfl rfl (by decide) _ (y_move rfl rfl) (fun a hF => ?_)
        refine vc_op rfl (fun K hK => ws_call hF rfl (by decide) cl13_pl rfl rfl ?_)
        with_reducible refine (hc_new w0 _ _ hA12 ).mono ?_
        rintro e' w13 ⟨hn, YH, rfl, hHn, hA14⟩
        refine ⟨_, rfl, fun a hF => hK _ _ ?_⟩
        clear hK K
        replace hA14 : Hp w0 (YH :: [row b1 26 [.int .i64 o.kind, .int .i64 o.h, .slice o.pA o.p.length o.pC]] :: [row rb 31 [.slice (some ⟨bH, pH, none⟩) qs.length cH, .slice (some ⟨gT, BT.length, none⟩) qs.length cT, .int .i64 ((held : Nat) : Int)]] :: XH :: [row gT 24 (BT ++ qs.map (·.tv) ++ ZT)] :: (qs.map pxS).flatten :: R) w13 := hA14
        have hA15 : Hp w0 (YH :: [row rb 31 [.slice (some ⟨bH, pH, none⟩) qs.length cH, .slice (some ⟨gT, BT.length, none⟩) qs.length cT, .int .i64 ((held : Nat) : Int)]] :: XH :: [row gT 24 (BT ++ qs.map (·.tv) ++ ZT)] :: (qs.map pxS).flatten :: [row b1 26 [.int .i64 o.kind, .int .i64 o.h, .slice o.pA o.p.length o.pC]] :: R) w13 := Hp.ord [YH, [row b1 26 [.int .i64 o.kind, .int .i64 o.h, .slice o.pA o.p.length o.pC]], [row rb 31 [.slice (some ⟨bH, pH, none⟩) qs.length cH, .slice (some ⟨gT, BT.length, none⟩) qs.length cT, .int .i64 ((held : Nat) : Int)]], XH, [row gT 24 (BT ++ qs.map (·.tv) ++ ZT)], (qs.map pxS).flatten] R [0, 2, 3, 4, 5, 1] hA14 rfl
        refine vc_op rfl (fun K hK => ws_call hF rfl (by decide) cl17_pl rfl rfl ?_)
        with_reducible refine (pl_joinsN w0 _ ([row b1 26 [.int .i64 o.kind, .int .i64 o.h, .slice o.pA o.p.length o.pC]] :: R) rb T held qs _ _ XH _ hqs hHs hTx hn [] YH hHn none 0 0 rfl Rc.nil (Nat.zero_le _) (by omega) hheld (by omega) hA15 ).mono ?_
        rintro e' w16 ⟨Y', rfl, hrow2, hA17⟩
        refine ⟨_, rfl, fun a hF => hK _ _ ?_⟩
        clear hK K
        replace hA17 : Hp w0 (Y' :: [row b1 26 [.int .i64 o.kind, .int .i64 o.h, .slice o.pA o.p.length o.pC]] :: R) w16 := hA17
        refine vc_y hF rfl rfl (by decide) _ (y_assign rfl rfl) (fun a hF => ?_)
        refine vc_nil ?_
        refine hK10 _ _ ?_; clear  hK10 K10
        apply wp_ret
        simp only [Exit.then, Exit.inBlock]
        refine vc_ret1 hF Tryd.results18 rfl ?_
        have hA18 : Hp w0 (Y' :: R) w16 := Hp.sel [Y', [row b1 26 [.int .i64 o.kind, .int .i64 o.h, .slice o.pA o.p.length o.pC]]] R [0] [1] hA17 rfl
        exact ⟨qs.length + 1, _, Y', rfl, ⟨Nat.le_succ _, by omega⟩, (by rw [List.length_nil]; omega), hrow2.mono (by omega), hA18⟩
  · by_cases k4 : o.kind = 4
    · by_cases hge : 1000 ≤ qs.length
      · refine wp_region_plan 31 [31] [0,1,2,3,4,5,6,7,8,9,10,11,12,13,14,15,16,17,18,19,20,21,22,23,24,25,26,27,28,29,30,31] (fun x => Hq w0 ([row b1 26 [.int .i64 o.kind, .int .i64 o.h, .slice o.pA o.p.length o.pC]] :: [row rb 31 [.slice (some ⟨bH, pH, none⟩) qs.length cH, .slice (some ⟨gT, BT.length, none⟩) qs.length cT, .int .i64 ((held : Nat) : Int)]] :: XH :: [row gT 24 (BT ++ qs.map (·.tv) ++ ZT)] :: (qs.map pxS).flatten :: R) x) (by kernel_rfl) (by kernel_rfl) (Hq.drew (Hp.qp [[row b1 26 [.int .i64 o.kind, .int .i64 o.h, .slice o.pA o.p.length o.pC]], [row rb 31 [.slice (some ⟨bH, pH, none⟩) qs.length cH, .slice (some ⟨gT, BT.length, none⟩) qs.length cT, .int .i64 ((held : Nat) : Int)]], XH, [row gT 24 (BT ++ qs.map (·.tv) ++ ZT)], (qs.map pxS).flatten] R [0, 1, 2, 3, 4] hA4)) ?_
        have hA19 := Hl.drew hA4
        refine vp_y hF rfl rfl rfl rfl (by decide) _ (fun x hx => y_field rfl Tryd.underlying26 rfl sz3_pl (by decide) rfl (rfl : (⟨_, 0 + _, none⟩ : Addr) = ⟨_, 0, none⟩)) (fun a hF => ?_)
        refine vp_y hF rfl rfl rfl rfl (by decide) _ (fun x hx => y_ld rfl hx rfl 0 rfl rfl nr3_pl) (fun a hF => ?_)
        refine vp_y hF rfl rfl rfl rfl (by decide) _ (fun x hx => y_cmp rfl rfl rfl rfl (eql_f (by omega))) (fun a hF => ?_)
        refine vp_y hF rfl rfl rfl rfl (by decide) _ (fun x hx => y_move rfl rfl) (fun a hF => ?_)
        refine vp_yg hF rfl rfl rfl rfl rfl rfl rfl (by decide) _ (fun x hx => y_field rfl Tryd.underlying26 rfl sz3_pl (by decide) rfl (rfl : (⟨_, 0 + _, none⟩ : Addr) = ⟨_, 0, none⟩)) (fun a hF => ?_)
        refine vp_yg hF rfl rfl rfl rfl rfl rfl rfl (by decide) _ (fun x hx => y_ld rfl hx rfl 0 rfl rfl nr3_pl) (fun a hF => ?_)
        refine vp_yg hF rfl rfl rfl rfl rfl rfl rfl (by decide) _ (fun x hx => y_cmp rfl rfl rfl rfl (eql_t (by omega))) (fun a hF => ?_)
        refine vp_y hF rfl rfl rfl rfl (by decide) _ (fun x hx => y_pick rfl rfl rfl) (fun a hF => ?_)
        refine vp_y hF rfl rfl rfl rfl (by decide) _ (fun x hx => y_move rfl rfl) (fun a hF => ?_)
        refine vp_yg hF rfl rfl rfl rfl rfl rfl rfl (by decide) _ (fun x hx => y_move rfl rfl) (fun a hF => ?_)
        refine vp_yg hF rfl rfl rfl rfl rfl rfl rfl (by decide) _ (fun x hx => y_nilCheck rfl rfl) (fun a hF => ?_)
        refine vp_yg hF rfl rfl rfl rfl rfl rfl rfl (by decide) _ (fun x hx => y_field rfl Tryd.underlying31 rfl sz28_pl (by decide) rfl (rfl : (⟨_, 0 + _, none⟩ : Addr) = ⟨_, 0, none⟩)) (fun a hF => ?_)
        refine vp_yg hF rfl rfl rfl rfl rfl rfl rfl (by decide) _ (fun x hx => y_ld rfl hx rfl 1 rfl rfl nr28_pl) (fun a hF => ?_)
        refine vp_yg hF rfl rfl rfl rfl rfl rfl rfl (by decide) _ (fun x hx => y_lenSl rfl Tryd.underlying28 rfl rfl) (fun a hF => ?_)
        refine vp_yg hF rfl rfl rfl rfl rfl rfl rfl (by decide) _ (fun x hx => y_cmp rfl rfl rfl rfl (geq_t (by omega))) (fun a hF => ?_)
        refine vp_yg hF rfl rfl rfl rfl rfl rfl rfl (by decide) _ (fun x hx => y_move rfl rfl) (fun a hF => ?_)
        refine vp_skip hF rfl rfl rfl rfl rfl rfl rfl rfl (by decide) (fun a hF => ?_)
        refine vp_skip hF rfl rfl rfl rfl rfl rfl rfl rfl (by decide) (fun a hF => ?_)
        refine vp_skip hF rfl rfl rfl rfl rfl rfl rfl rfl (by decide) (fun a hF => ?_)
        refine vp_skip hF rfl rfl rfl rfl rfl rfl rfl rfl (by decide) (fun a hF => ?_)
        refine vp_skip hF rfl rfl rfl rfl rfl rfl rfl rfl (by decide) (fun a hF => ?_)
        refine vp_skip hF rfl rfl rfl rfl rfl rfl rfl rfl (by decide) (fun a hF => ?_)
        refine vp_skip hF rfl rfl rfl rfl rfl rfl rfl rfl (by decide) (fun a hF => ?_)
        refine vp_skip hF rfl rfl rfl rfl rfl rfl rfl rfl (by decide) (fun a hF => ?_)
        refine vp_skip hF rfl rfl rfl rfl rfl rfl rfl rfl (by decide) (fun a hF => ?_)
        refine vp_skip hF rfl rfl rfl rfl rfl rfl rfl rfl (by decide) (fun a hF => ?_)
        refine vp_skip hF rfl rfl rfl rfl rfl rfl rfl rfl (by decide) (fun a hF => ?_)
        refine vp_skip hF rfl rfl rfl rfl rfl rfl rfl rfl (by decide) (fun a hF => ?_)
        refine vp_skip hF rfl rfl rfl rfl rfl rfl rfl rfl (by decide) (fun a hF => ?_)
        refine vp_skip hF rfl rfl rfl rfl rfl rfl rfl rfl (by decide) (fun a hF => ?_)
        refine vp_yg hF rfl rfl rfl rfl rfl rfl rfl (by decide) _ (fun x hx => y_pick rfl rfl rfl) (fun a hF => ?_)
        refine vp_ly hF rfl rfl rfl rfl (by decide) _ (y_pick rfl rfl rfl) (fun h => absurd h (by decide)) (fun a hF => ?_)
        refine plan_end ?_
        refine hK4 _ _ ?_; clear  hK4 K4
        refine vc_true hF rfl ?_
        apply wp_seq_k; intro K11 hK11
        refine wp_region_lit ?_
        refine vc_y hF rfl rfl (by decide) _ (y_assign rfl rfl) (fun a hF => ?_)
        refine vc_nil ?_
        refine hK11 _ _ ?_; clear  hK11 K11
        apply wp_ret
        simp only [Exit.then]
        refine vc_ret1 hF Tryd.results18 rfl ?_
        have hA20 : Hp w0 ([row rb 31 [.slice (some ⟨bH, pH, none⟩) qs.length cH, .slice (some ⟨gT, BT.length, none⟩) qs.length cT, .int .i64 ((held : Nat) : Int)]] :: XH :: [row gT 24 (BT ++ qs.map (·.tv) ++ ZT)] :: (qs.map pxS).flatten :: R) w2.drew.drew := Hp.sel [[row b1 26 [.int .i64 o.kind, .int .i64 o.h, .slice o.pA o.p.length o.pC]], [row rb 31 [.slice (some ⟨bH, pH, none⟩) qs.length cH, .slice (some ⟨gT, BT.length, none⟩) qs.length cT, .int .i64 ((held : Nat) : Int)]], XH, [row gT 24 (BT ++ qs.map (·.tv) ++ ZT)], (qs.map pxS).flatten] R [1, 2, 3, 4] [0] hA19 rfl
        exact ⟨qs.length, held, _, rfl, ⟨Nat.le_refl _, hnb⟩, hheld, ⟨qs, _, _, XH, _, rfl, fun q h => ⟨(hqs q h).1, Nat.le_trans (hqs q h).2 (by omega)⟩, hHs, hTx, rfl⟩, hA20.cast (by simp)⟩
      · by_cases hgt : 4000000 < held + m.length
        · refine wp_region_plan 31 [31] [0,1,2,3,4,5,6,7,8,9,10,11,12,13,14,15,16,17,18,19,20,21,22,23,24,25,26,27,28,29,30,31] (fun x => Hq w0 ([row b1 26 [.int .i64 o.kind, .int .i64 o.h, .slice o.pA o.p.length o.pC]] :: [row rb 31 [.slice (some ⟨bH, pH, none⟩) qs.length cH, .slice (some ⟨gT, BT.length, none⟩) qs.length cT, .int .i64 ((held : Nat) : Int)]] :: XH :: [row gT 24 (BT ++ qs.map (·.tv) ++ ZT)] :: (qs.map pxS).flatten :: R) x) (by kernel_rfl) (by kernel_rfl) (Hq.drew (Hp.qp [[row b1 26 [.int .i64 o.kind, .int .i64 o.h, .slice o.pA o.p.length o.pC]], [row rb 31 [.slice (some ⟨bH, pH, none⟩) qs.length cH, .slice (some ⟨gT, BT.length, none⟩) qs.length cT, .int .i64 ((held : Nat) : Int)]], XH, [row gT 24 (BT ++ qs.map (·.tv) ++ ZT)], (qs.map pxS).flatten] R [0, 1, 2, 3, 4] hA4)) ?_
          have hA21 := Hl.drew hA4
          refine vp_y hF rfl rfl rfl rfl (by decide) _ (fun x hx => y_field rfl Tryd.underlying26 rfl sz3_pl (by decide) rfl (rfl : (⟨_, 0 + _, none⟩ : Addr) = ⟨_, 0, none⟩)) (fun a hF => ?_)
          refine vp_y hF rfl rfl rfl rfl (by decide) _ (fun x hx => y_ld rfl hx rfl 0 rfl rfl nr3_pl) (fun a hF => ?_)
          refine vp_y hF rfl rfl rfl rfl (by decide) _ (fun x hx => y_cmp rfl rfl rfl rfl (eql_f (by omega))) (fun a hF => ?_)
          refine vp_y hF rfl rfl rfl rfl (by decide) _ (fun x hx => y_move rfl rfl) (fun a hF => ?_)
          refine vp_yg hF rfl rfl rfl rfl rfl rfl rfl (by decide) _ (fun x hx => y_field rfl Tryd.underlying26 rfl sz3_pl (by decide) rfl (rfl : (⟨_, 0 + _, none⟩ : Addr) = ⟨_, 0, none⟩)) (fun a hF => ?_)
          refine vp_yg hF rfl rfl rfl rfl rfl rfl rfl (by decide) _ (fun x hx => y_ld rfl hx rfl 0 rfl rfl nr3_pl) (fun a hF => ?_)
          refine vp_yg hF rfl rfl rfl rfl rfl rfl rfl (by decide) _ (fun x hx => y_cmp rfl rfl rfl rfl (eql_t (by omega))) (fun a hF => ?_)
          refine vp_y hF rfl rfl rfl rfl (by decide) _ (fun x hx => y_pick rfl rfl rfl) (fun a hF => ?_)
          refine vp_y hF rfl rfl rfl rfl (by decide) _ (fun x hx => y_move rfl rfl) (fun a hF => ?_)
          refine vp_yg hF rfl rfl rfl rfl rfl rfl rfl (by decide) _ (fun x hx => y_move rfl rfl) (fun a hF => ?_)
          refine vp_yg hF rfl rfl rfl rfl rfl rfl rfl (by decide) _ (fun x hx => y_nilCheck rfl rfl) (fun a hF => ?_)
          refine vp_yg hF rfl rfl rfl rfl rfl rfl rfl (by decide) _ (fun x hx => y_field rfl Tryd.underlying31 rfl sz28_pl (by decide) rfl (rfl : (⟨_, 0 + _, none⟩ : Addr) = ⟨_, 0, none⟩)) (fun a hF => ?_)
          refine vp_yg hF rfl rfl rfl rfl rfl rfl rfl (by decide) _ (fun x hx => y_ld rfl hx rfl 1 rfl rfl nr28_pl) (fun a hF => ?_)
          refine vp_yg hF rfl rfl rfl rfl rfl rfl rfl (by decide) _ (fun x hx => y_lenSl rfl Tryd.underlying28 rfl rfl) (fun a hF => ?_)
          refine vp_yg hF rfl rfl rfl rfl rfl rfl rfl (by decide) _ (fun x hx => y_cmp rfl rfl rfl rfl (geq_f (by omega))) (fun a hF => ?_)
          refine vp_yg hF rfl rfl rfl rfl rfl rfl rfl (by decide) _ (fun x hx => y_move rfl rfl) (fun a hF => ?_)
          refine vp_yg hF rfl rfl rfl rfl rfl rfl rfl (by decide) _ (fun x hx => y_move rfl rfl) (fun a hF => ?_)
          refine vp_yg hF rfl rfl rfl rfl rfl rfl rfl (by decide) _ (fun x hx => y_nilCheck rfl rfl) (fun a hF => ?_)
          refine vp_yg hF rfl rfl rfl rfl rfl rfl rfl (by decide) _ (fun x hx => y_field rfl Tryd.underlying31 rfl sz3_pl (by decide) rfl (rfl : (⟨_, 0 + _, none⟩ : Addr) = ⟨_, 2, none⟩)) (fun a hF => ?_)
          refine vp_yg hF rfl rfl rfl rfl rfl rfl rfl (by decide) _ (fun x hx => y_ld rfl hx rfl 1 rfl rfl nr3_pl) (fun a hF => ?_)
          refine vp_yg hF rfl rfl rfl rfl rfl rfl rfl (by decide) _ (fun x hx => y_move rfl rfl) (fun a hF => ?_)
          refine vp_yg hF rfl rfl rfl rfl rfl rfl rfl (by decide) _ (fun x hx => y_nilCheck rfl rfl) (fun a hF => ?_)
          refine vp_yg hF rfl rfl rfl rfl rfl rfl rfl (by decide) _ (fun x hx => y_field rfl Tryd.underlying31 rfl sz29_pl (by decide) rfl (rfl : (⟨_, 0 + _, none⟩ : Addr) = ⟨_, 1, none⟩)) (fun a hF => ?_)
          refine vp_yg hF rfl rfl rfl rfl rfl rfl rfl (by decide) _ (fun x hx => y_ld rfl hx rfl 1 rfl rfl nr29_pl) (fun a hF => ?_)
          refine vp_yg hF rfl rfl rfl rfl rfl rfl rfl (by decide) _ (fun x hx => y_move rfl rfl) (fun a hF => ?_)
          refine vp_yg hF rfl rfl rfl rfl rfl rfl rfl (by decide) _ (fun x hx => y_ixSl rfl Tryd.underlying29 sz24_pl rfl rfl i rfl hiq (ad2 _ _ _)) (fun a hF => ?_)
          refine vp_yg hF rfl rfl rfl rfl rfl rfl rfl (by decide) _ (fun x hx => y_ldC (u := .slice Am m.length cm) rfl (Hq.sub hx (sub1 (List.mem_cons_of_mem _ (List.mem_cons_of_mem _ (List.mem_cons_of_mem _ ((List.mem_cons_self ..))))))) rfl hcT i hiT rfl hqT nr24_pl) (fun a hF => ?_)
          refine vp_yg hF rfl rfl rfl rfl rfl rfl rfl (by decide) _ (fun x hx => y_lenSl rfl Tryd.underlying24 rfl rfl) (fun a hF => ?_)
          refine vp_yg hF rfl rfl rfl rfl rfl rfl rfl (by decide) _ (fun x hx => y_add (r := ((held + m.length : Nat) : Int)) rfl rfl rfl (by rw [IntWalk.i64_in _ (by omega)]; omega)) (fun a hF => ?_)
          refine vp_yg hF rfl rfl rfl rfl rfl rfl rfl (by decide) _ (fun x hx => y_cmp rfl rfl rfl rfl (gtr_t (by omega))) (fun a hF => ?_)
          refine vp_yg hF rfl rfl rfl rfl rfl rfl rfl (by decide) _ (fun x hx => y_pick rfl rfl rfl) (fun a hF => ?_)
          refine vp_ly hF rfl rfl rfl rfl (by decide) _ (y_pick rfl rfl rfl) (fun h => absurd h (by decide)) (fun a hF => ?_)
          refine plan_end ?_
          refine hK4 _ _ ?_; clear  hK4 K4
          refine vc_true hF rfl ?_
          apply wp_seq_k; intro K12 hK12
          refine wp_region_lit ?_
          refine vc_y hF rfl rfl (by decide) _ (y_assign rfl rfl) (fun a hF => ?_)
          refine vc_nil ?_
          refine hK12 _ _ ?_; clear  hK12 K12
          apply wp_ret
          simp only [Exit.then]
          refine vc_ret1 hF Tryd.results18 rfl ?_
          have hA22 : Hp w0 ([row rb 31 [.slice (some ⟨bH, pH, none⟩) qs.length cH, .slice (some ⟨gT, BT.length, none⟩) qs.length cT, .int .i64 ((held : Nat) : Int)]] :: XH :: [row gT 24 (BT ++ qs.map (·.tv) ++ ZT)] :: (qs.map pxS).flatten :: R) w2.drew.drew := Hp.sel [[row b1 26 [.int .i64 o.kind, .int .i64 o.h, .slice o.pA o.p.length o.pC]], [row rb 31 [.slice (some ⟨bH, pH, none⟩) qs.length cH, .slice (some ⟨gT, BT.length, none⟩) qs.length cT, .int .i64 ((held : Nat) : Int)]], XH, [row gT 24 (BT ++ qs.map (·.tv) ++ ZT)], (qs.map pxS).flatten] R [1, 2, 3, 4] [0] hA21 rfl
          exact ⟨qs.length, held, _, rfl, ⟨Nat.le_refl _, hnb⟩, hheld, ⟨qs, _, _, XH, _, rfl, fun q h => ⟨(hqs q h).1, Nat.le_trans (hqs q h).2 (by omega)⟩, hHs, hTx, rfl⟩, hA22.cast (by simp)⟩
        · refine wp_region_plan 31 [31] [0,1,2,3,4,5,6,7,8,9,10,11,12,13,14,15,16,17,18,19,20,21,22,23,24,25,26,27,28,29,30,31] (fun x => Hq w0 ([row b1 26 [.int .i64 o.kind, .int .i64 o.h, .slice o.pA o.p.length o.pC]] :: [row rb 31 [.slice (some ⟨bH, pH, none⟩) qs.length cH, .slice (some ⟨gT, BT.length, none⟩) qs.length cT, .int .i64 ((held : Nat) : Int)]] :: XH :: [row gT 24 (BT ++ qs.map (·.tv) ++ ZT)] :: (qs.map pxS).flatten :: R) x) (by kernel_rfl) (by kernel_rfl) (Hq.drew (Hp.qp [[row b1 26 [.int .i64 o.kind, .int .i64 o.h, .slice o.pA o.p.length o.pC]], [row rb 31 [.slice (some ⟨bH, pH, none⟩) qs.length cH, .slice (some ⟨gT, BT.length, none⟩) qs.length cT, .int .i64 ((held : Nat) : Int)]], XH, [row gT 24 (BT ++ qs.map (·.tv) ++ ZT)], (qs.map pxS).flatten] R [0, 1, 2, 3, 4] hA4)) ?_
          have hA23 := Hl.drew hA4
          refine vp_y hF rfl rfl rfl rfl (by decide) _ (fun x hx => y_field rfl Tryd.underlying26 rfl sz3_pl (by decide) rfl (rfl : (⟨_, 0 + _, none⟩ : Addr) = ⟨_, 0, none⟩)) (fun a hF => ?_)
          refine vp_y hF rfl rfl rfl rfl (by decide) _ (fun x hx => y_ld rfl hx rfl 0 rfl rfl nr3_pl) (fun a hF => ?_)
          refine vp_y hF rfl rfl rfl rfl (by decide) _ (fun x hx => y_cmp rfl rfl rfl rfl (eql_f (by omega))) (fun a hF => ?_)
          refine vp_y hF rfl rfl rfl rfl (by decide) _ (fun x hx => y_move rfl rfl) (fun a hF => ?_)
          refine vp_yg hF rfl rfl rfl rfl rfl rfl rfl (by decide) _ (fun x hx => y_field rfl Tryd.underlying26 rfl sz3_pl (by decide) rfl (rfl : (⟨_, 0 + _, none⟩ : Addr) = ⟨_, 0, none⟩)) (fun a hF => ?_)
          refine vp_yg hF rfl rfl rfl rfl rfl rfl rfl (by decide) _ (fun x hx => y_ld rfl hx rfl 0 rfl rfl nr3_pl) (fun a hF => ?_)
          refine vp_yg hF rfl rfl rfl rfl rfl rfl rfl (by decide) _ (fun x hx => y_cmp rfl rfl rfl rfl (eql_t (by omega))) (fun a hF => ?_)
          refine vp_y hF rfl rfl rfl rfl (by decide) _ (fun x hx => y_pick rfl rfl rfl) (fun a hF => ?_)
          refine vp_y hF rfl rfl rfl rfl (by decide) _ (fun x hx => y_move rfl rfl) (fun a hF => ?_)
          refine vp_yg hF rfl rfl rfl rfl rfl rfl rfl (by decide) _ (fun x hx => y_move rfl rfl) (fun a hF => ?_)
          refine vp_yg hF rfl rfl rfl rfl rfl rfl rfl (by decide) _ (fun x hx => y_nilCheck rfl rfl) (fun a hF => ?_)
          refine vp_yg hF rfl rfl rfl rfl rfl rfl rfl (by decide) _ (fun x hx => y_field rfl Tryd.underlying31 rfl sz28_pl (by decide) rfl (rfl : (⟨_, 0 + _, none⟩ : Addr) = ⟨_, 0, none⟩)) (fun a hF => ?_)
          refine vp_yg hF rfl rfl rfl rfl rfl rfl rfl (by decide) _ (fun x hx => y_ld rfl hx rfl 1 rfl rfl nr28_pl) (fun a hF => ?_)
          refine vp_yg hF rfl rfl rfl rfl rfl rfl rfl (by decide) _ (fun x hx => y_lenSl rfl Tryd.underlying28 rfl rfl) (fun a hF => ?_)
          refine vp_yg hF rfl rfl rfl rfl rfl rfl rfl (by decide) _ (fun x hx => y_cmp rfl rfl rfl rfl (geq_f (by omega))) (fun a hF => ?_)
          refine vp_yg hF rfl rfl rfl rfl rfl rfl rfl (by decide) _ (fun x hx => y_move rfl rfl) (fun a hF => ?_)
          refine vp_yg hF rfl rfl rfl rfl rfl rfl rfl (by decide) _ (fun x hx => y_move rfl rfl) (fun a hF => ?_)
          refine vp_yg hF rfl rfl rfl rfl rfl rfl rfl (by decide) _ (fun x hx => y_nilCheck rfl rfl) (fun a hF => ?_)
          refine vp_yg hF rfl rfl rfl rfl rfl rfl rfl (by decide) _ (fun x hx => y_field rfl Tryd.underlying31 rfl sz3_pl (by decide) rfl (rfl : (⟨_, 0 + _, none⟩ : Addr) = ⟨_, 2, none⟩)) (fun a hF => ?_)
          refine vp_yg hF rfl rfl rfl rfl rfl rfl rfl (by decide) _ (fun x hx => y_ld rfl hx rfl 1 rfl rfl nr3_pl) (fun a hF => ?_)
          refine vp_yg hF rfl rfl rfl rfl rfl rfl rfl (by decide) _ (fun x hx => y_move rfl rfl) (fun a hF => ?_)
          refine vp_yg hF rfl rfl rfl rfl rfl rfl rfl (by decide) _ (fun x hx => y_nilCheck rfl rfl) (fun a hF => ?_)
          refine vp_yg hF rfl rfl rfl rfl rfl rfl rfl (by decide) _ (fun x hx => y_field rfl Tryd.underlying31 rfl sz29_pl (by decide) rfl (rfl : (⟨_, 0 + _, none⟩ : Addr) = ⟨_, 1, none⟩)) (fun a hF => ?_)
          refine vp_yg hF rfl rfl rfl rfl rfl rfl rfl (by decide) _ (fun x hx => y_ld rfl hx rfl 1 rfl rfl nr29_pl) (fun a hF => ?_)
          refine vp_yg hF rfl rfl rfl rfl rfl rfl rfl (by decide) _ (fun x hx => y_move rfl rfl) (fun a hF => ?_)
          refine vp_yg hF rfl rfl rfl rfl rfl rfl rfl (by decide) _ (fun x hx => y_ixSl rfl Tryd.underlying29 sz24_pl rfl rfl i rfl hiq (ad2 _ _ _)) (fun a hF => ?_)
          refine vp_yg hF rfl rfl rfl rfl rfl rfl rfl (by decide) _ (fun x hx => y_ldC (u := .slice Am m.length cm) rfl (Hq.sub hx (sub1 (List.mem_cons_of_mem _ (List.mem_cons_of_mem _ (List.mem_cons_of_mem _ ((List.mem_cons_self ..))))))) rfl hcT i hiT rfl hqT nr24_pl) (fun a hF => ?_)
          refine vp_yg hF rfl rfl rfl rfl rfl rfl rfl (by decide) _ (fun x hx => y_lenSl rfl Tryd.underlying24 rfl rfl) (fun a hF => ?_)
          refine vp_yg hF rfl rfl rfl rfl rfl rfl rfl (by decide) _ (fun x hx => y_add (r := ((held + m.length : Nat) : Int)) rfl rfl rfl (by rw [IntWalk.i64_in _ (by omega)]; omega)) (fun a hF => ?_)
          refine vp_yg hF rfl rfl rfl rfl rfl rfl rfl (by decide) _ (fun x hx => y_cmp rfl rfl rfl rfl (gtr_f (by omega))) (fun a hF => ?_)
          refine vp_yg hF rfl rfl rfl rfl rfl rfl rfl (by decide) _ (fun x hx => y_pick rfl rfl rfl) (fun a hF => ?_)
          refine vp_ly hF rfl rfl rfl rfl (by decide) _ (y_pick rfl rfl rfl) (fun h => absurd h (by decide)) (fun a hF => ?_)
          refine plan_end ?_
          refine hK4 _ _ ?_; clear  hK4 K4
          refine vc_false hF rfl ?_
          apply wp_skip
          refine hK3 _ _ ?_; clear  hK3 K3
          apply wp_seq_k; intro K13 hK13
          apply wp_seq_k; intro K14 hK14
          refine wp_region_lit ?_
          refine vc_y hF rfl rfl (by decide) _ (y_field rfl Tryd.underlying26 rfl sz3_pl (by decide) rfl (rfl : (⟨_, 0 + _, none⟩ : Addr) = ⟨_, 0, none⟩)) (fun a hF => ?_)
          refine vc_y hF rfl rfl (by decide) _ (y_ld rfl hA23.q rfl 0 rfl rfl nr3_pl) (fun a hF => ?_)
          refine vc_nil ?_
          refine hK14 _ _ ?_; clear  hK14 K14
          apply wp_block
          apply wp_seq_k; intro K15 hK15
          refine wp_region_lit ?_
          refine vc_y hF rfl rfl (by decide) _ (y_cmp rfl rfl rfl rfl rfl) (fun a hF => ?_)
          refine vc_y hF rfl rfl (by decide) _ (y_assign rfl rfl) (fun a hF => ?_)
          refine vc_nil ?_
          refine hK15 _ _ ?_; clear  hK15 K15
          refine vc_falseB hF rfl (eql_f (by omega)) ?_
          apply wp_seq_k; intro K16 hK16
          refine wp_region_lit ?_
          refine vc_y hF rfl rfl (by decide) _ (y_cmp rfl rfl rfl rfl rfl) (fun a hF => ?_)
          refine vc_y hF rfl rfl (by decide) _ (y_assign rfl rfl) (fun a hF => ?_)
          refine vc_nil ?_
          refine hK16 _ _ ?_; clear  hK16 K16
          refine vc_falseB hF rfl (eql_f (by omega)) ?_
          apply wp_seq_k; intro K17 hK17
          refine wp_region_lit ?_
          refine vc_y hF rfl rfl (by decide) _ (y_cmp rfl rfl rfl rfl rfl) (fun a hF => ?_)
          refine vc_y hF rfl rfl (by decide) _ (y_assign rfl rfl) (fun a hF => ?_)
          refine vc_nil ?_
          refine hK17 _ _ ?_; clear  hK17 K17
          refine vc_falseB hF rfl (eql_f (by omega)) ?_
          apply wp_seq_k; intro K18 hK18
          refine wp_region_lit ?_
          refine vc_y hF rfl rfl (by decide) _ (y_cmp rfl rfl rfl rfl rfl) (fun a hF => ?_)
          refine vc_y hF rfl rfl (by decide) _ (y_assign rfl rfl) (fun a hF => ?_)
          refine vc_nil ?_
          refine hK18 _ _ ?_; clear  hK18 K18
          refine vc_trueB hF rfl (eql_t (by omega)) ?_
          apply wp_seq_k; intro K19 hK19
          refine wp_region_plan 16 [8,16,17] [0,1,2,3,4,5,6,7,9,10,11,12,13,14,15,8,16,17] (fun x => Hq w0 ([row b1 26 [.int .i64 o.kind, .int .i64 o.h, .slice o.pA o.p.length o.pC]] :: [row rb 31 [.slice (some ⟨bH, pH, none⟩) qs.length cH, .slice (some ⟨gT, BT.length, none⟩) qs.length cT, .int .i64 ((held : Nat) : Int)]] :: XH :: [row gT 24 (BT ++ qs.map (·.tv) ++ ZT)] :: (qs.map pxS).flatten :: R) x) (by kernel_rfl) (by kernel_rfl) (Hq.drew (Hp.qp [[row b1 26 [.int .i64 o.kind, .int .i64 o.h, .slice o.pA o.p.length o.pC]], [row rb 31 [.slice (some ⟨bH, pH, none⟩) qs.length cH, .slice (some ⟨gT, BT.length, none⟩) qs.length cT, .int .i64 ((held : Nat) : Int)]], XH, [row gT 24 (BT ++ qs.map (·.tv) ++ ZT)], (qs.map pxS).flatten] R [0, 1, 2, 3, 4] hA23)) ?_
          have hA24 := Hl.drew hA23
          refine vp_y hF rfl rfl rfl rfl (by decide) _ (fun x hx => y_move rfl rfl) (fun a hF => ?_)
          refine vp_y hF rfl rfl rfl rfl (by decide) _ (fun x hx => y_move rfl rfl) (fun a hF => ?_)
          refine vp_y hF rfl rfl rfl rfl (by decide) _ (fun x hx => y_nilCheck rfl rfl) (fun a hF => ?_)
          refine vp_y hF rfl rfl rfl rfl (by decide) _ (fun x hx => y_field rfl Tryd.underlying31 rfl sz28_pl (by decide) rfl (rfl : (⟨_, 0 + _, none⟩ : Addr) = ⟨_, 0, none⟩)) (fun a hF => ?_)
          refine vp_y hF rfl rfl rfl rfl (by decide) _ (fun x hx => y_ld rfl hx rfl 1 rfl rfl nr28_pl) (fun a hF => ?_)
          refine vp_y hF rfl rfl rfl rfl (by decide) _ (fun x hx => y_move rfl rfl) (fun a hF => ?_)
          refine vp_y hF rfl rfl rfl rfl (by decide) _ (fun x hx => y_ixSl rfl Tryd.underlying28 sz32_pl rfl rfl i rfl hiq (ad2 _ _ _)) (fun a hF => ?_)
          refine vp_y hF rfl rfl rfl rfl (by decide) _ (fun x hx => y_ldC (u := .pointer (some ⟨hb, 0, none⟩)) rfl (Hq.sub hx (sub1 (List.mem_cons_of_mem _ (List.mem_cons_of_mem _ ((List.mem_cons_self ..)))))) rfl hcH i hiH rfl hqP nr32_pl) (fun a hF => ?_)
          refine vp_y hF rfl rfl rfl rfl (by decide) _ (fun x hx => y_move rfl rfl) (fun a hF => ?_)
          refine vp_y hF rfl rfl rfl rfl (by decide) _ (fun x hx => y_nilCheck rfl rfl) (fun a hF => ?_)
          refine vp_y hF rfl rfl rfl rfl (by decide) _ (fun x hx => y_field rfl Tryd.underlying31 rfl sz29_pl (by decide) rfl (rfl : (⟨_, 0 + _, none⟩ : Addr) = ⟨_, 1, none⟩)) (fun a hF => ?_)
          refine vp_y hF rfl rfl rfl rfl (by decide) _ (fun x hx => y_ld rfl hx rfl 1 rfl rfl nr29_pl) (fun a hF => ?_)
          refine vp_y hF rfl rfl rfl rfl (by decide) _ (fun x hx => y_move rfl rfl) (fun a hF => ?_)
          refine vp_y hF rfl rfl rfl rfl (by decide) _ (fun x hx => y_ixSl rfl Tryd.underlying29 sz24_pl rfl rfl i rfl hiq (ad2 _ _ _)) (fun a hF => ?_)
          refine vp_y hF rfl rfl rfl rfl (by decide) _ (fun x hx => y_ldC (u := .slice Am m.length cm) rfl (Hq.sub hx (sub1 (List.mem_cons_of_mem _ (List.mem_cons_of_mem _ (List.mem_cons_of_mem _ ((List.mem_cons_self ..))))))) rfl hcT i hiT rfl hqT nr24_pl) (fun a hF => ?_)
          refine vp_l rfl rfl rfl (fun K hK => ws_call hF rfl (by decide) cl24_pl rfl rfl ?_)
          with_reducible refine (hc_forkF w0 _ _ hb m Yq hYq (px_in hYf (List.mem_cons_of_mem _ (List.mem_cons_of_mem _ (List.mem_cons_of_mem _ (List.mem_cons_of_mem _ ((List.mem_cons_self ..))))))) hA24 ).mono ?_
          rintro e' w25 ⟨hn, YH, rfl, hHn, hA26⟩
          refine ⟨_, rfl, fun a hF => hK _ _ (fun _ => ?_) ?_⟩
          · exact Hp.qp [YH, [row b1 26 [.int .i64 o.kind, .int .i64 o.h, .slice o.pA o.p.length o.pC]], [row rb 31 [.slice (some ⟨bH, pH, none⟩) qs.length cH, .slice (some ⟨gT, BT.length, none⟩) qs.length cT, .int .i64 ((held : Nat) : Int)]], XH, [row gT 24 (BT ++ qs.map (·.tv) ++ ZT)], (qs.map pxS).flatten] R [1, 2, 3, 4, 5] hA26
          clear hK K
          replace hA26 : Hp w0 (YH :: [row b1 26 [.int .i64 o.kind, .int .i64 o.h, .slice o.pA o.p.length o.pC]] :: [row rb 31 [.slice (some ⟨bH, pH, none⟩) qs.length cH, .slice (some ⟨gT, BT.length, none⟩) qs.length cT, .int .i64 ((held : Nat) : Int)]] :: XH :: [row gT 24 (BT ++ qs.map (·.tv) ++ ZT)] :: (qs.map pxS).flatten :: R) w25 := hA26
          have hA27 : Hp w0 (YH :: [row rb 31 [.slice (some ⟨bH, pH, none⟩) qs.length cH, .slice (some ⟨gT, BT.length, none⟩) qs.length cT, .int .i64 ((held : Nat) : Int)]] :: XH :: [row gT 24 (BT ++ qs.map (·.tv) ++ ZT)] :: (qs.map pxS).flatten :: [row b1 26 [.int .i64 o.kind, .int .i64 o.h, .slice o.pA o.p.length o.pC]] :: R) w25 := Hp.ord [YH, [row b1 26 [.int .i64 o.kind, .int .i64 o.h, .slice o.pA o.p.length o.pC]], [row rb 31 [.slice (some ⟨bH, pH, none⟩) qs.length cH, .slice (some ⟨gT, BT.length, none⟩) qs.length cT, .int .i64 ((held : Nat) : Int)]], XH, [row gT 24 (BT ++ qs.map (·.tv) ++ ZT)], (qs.map pxS).flatten] R [0, 2, 3, 4, 5, 1] hA26 rfl
          refine vp_l rfl rfl rfl (fun K hK => ws_call hF rfl (by decide) cl17_pl rfl rfl ?_)
          with_reducible refine (pl_joins w0 _ ([row b1 26 [.int .i64 o.kind, .int .i64 o.h, .slice o.pA o.p.length o.pC]] :: R) rb T held qs _ _ XH _ hqs hHs hTx hn m YH hHn Am cm (hRm.mono (sub1 (List.mem_cons_self ..))) hmT (by omega) hheld (by omega) hA27 ).mono ?_
          rintro e' w28 ⟨Y', rfl, hrow2, hA29⟩
          refine ⟨_, rfl, fun a hF => hK _ _ (fun h => absurd h (by decide)) ?_⟩
          clear hK K
          replace hA29 : Hp w0 (Y' :: [row b1 26 [.int .i64 o.kind, .int .i64 o.h, .slice o.pA o.p.length o.pC]] :: R) w28 := hA29
          refine vp_ly hF rfl rfl rfl rfl (by decide) _ (y_assign rfl rfl) (fun h => absurd h (by decide)) (fun a hF => ?_)
          refine plan_end ?_
          refine hK19 _ _ ?_; clear  hK19 K19
          apply wp_ret
          simp only [Exit.then, Exit.inBlock]
          refine vc_ret1 hF Tryd.results18 rfl ?_
          have hA30 : Hp w0 (Y' :: R) w28 := Hp.sel [Y', [row b1 26 [.int .i64 o.kind, .int .i64 o.h, .slice o.pA o.p.length o.pC]]] R [0] [1] hA29 rfl
          exact ⟨qs.length + 1, _, Y', rfl, ⟨Nat.le_succ _, by omega⟩, (by omega), hrow2.mono (by omega), hA30⟩
    · refine wp_region_plan 31 [31] [0,1,2,3,4,5,6,7,8,9,10,11,12,13,14,15,16,17,18,19,20,21,22,23,24,25,26,27,28,29,30,31] (fun x => Hq w0 ([row b1 26 [.int .i64 o.kind, .int .i64 o.h, .slice o.pA o.p.length o.pC]] :: [row rb 31 [.slice (some ⟨bH, pH, none⟩) qs.length cH, .slice (some ⟨gT, BT.length, none⟩) qs.length cT, .int .i64 ((held : Nat) : Int)]] :: XH :: [row gT 24 (BT ++ qs.map (·.tv) ++ ZT)] :: (qs.map pxS).flatten :: R) x) (by kernel_rfl) (by kernel_rfl) (Hq.drew (Hp.qp [[row b1 26 [.int .i64 o.kind, .int .i64 o.h, .slice o.pA o.p.length o.pC]], [row rb 31 [.slice (some ⟨bH, pH, none⟩) qs.length cH, .slice (some ⟨gT, BT.length, none⟩) qs.length cT, .int .i64 ((held : Nat) : Int)]], XH, [row gT 24 (BT ++ qs.map (·.tv) ++ ZT)], (qs.map pxS).flatten] R [0, 1, 2, 3, 4] hA4)) ?_
      have hA31 := Hl.drew hA4
      refine vp_y hF rfl rfl rfl rfl (by decide) _ (fun x hx => y_field rfl Tryd.underlying26 rfl sz3_pl (by decide) rfl (rfl : (⟨_, 0 + _, none⟩ : Addr) = ⟨_, 0, none⟩)) (fun a hF => ?_)
      refine vp_y hF rfl rfl rfl rfl (by decide) _ (fun x hx => y_ld rfl hx rfl 0 rfl rfl nr3_pl) (fun a hF => ?_)
      refine vp_y hF rfl rfl rfl rfl (by decide) _ (fun x hx => y_cmp rfl rfl rfl rfl (eql_f (by omega))) (fun a hF => ?_)
      refine vp_y hF rfl rfl rfl rfl (by decide) _ (fun x hx => y_move rfl rfl) (fun a hF => ?_)
      refine vp_yg hF rfl rfl rfl rfl rfl rfl rfl (by decide) _ (fun x hx => y_field rfl Tryd.underlying26 rfl sz3_pl (by decide) rfl (rfl : (⟨_, 0 + _, none⟩ : Addr) = ⟨_, 0, none⟩)) (fun a hF => ?_)
      refine vp_yg hF rfl rfl rfl rfl rfl rfl rfl (by decide) _ (fun x hx => y_ld rfl hx rfl 0 rfl rfl nr3_pl) (fun a hF => ?_)
      refine vp_yg hF rfl rfl rfl rfl rfl rfl rfl (by decide) _ (fun x hx => y_cmp rfl rfl rfl rfl (eql_f (by omega))) (fun a hF => ?_)
      refine vp_y hF rfl rfl rfl rfl (by decide) _ (fun x hx => y_pick rfl rfl rfl) (fun a hF => ?_)
      refine vp_y hF rfl rfl rfl rfl (by decide) _ (fun x hx => y_move rfl rfl) (fun a hF => ?_)
      refine vp_skip hF rfl rfl rfl rfl rfl rfl rfl rfl (by decide) (fun a hF => ?_)
      refine vp_skip hF rfl rfl rfl rfl rfl rfl rfl rfl (by decide) (fun a hF => ?_)
      refine vp_skip hF rfl rfl rfl rfl rfl rfl rfl rfl (by decide) (fun a hF => ?_)
      refine vp_skip hF rfl rfl rfl rfl rfl rfl rfl rfl (by decide) (fun a hF => ?_)
      refine vp_skip hF rfl rfl rfl rfl rfl rfl rfl rfl (by decide) (fun a hF => ?_)
      refine vp_skip hF rfl rfl rfl rfl rfl rfl rfl rfl (by decide) (fun a hF => ?_)
      refine vp_skip hF rfl rfl rfl rfl rfl rfl rfl rfl (by decide) (fun a hF => ?_)
      refine vp_skipU hF rfl rfl rfl rfl rfl rfl rfl (by decide) (fun a hF => ?_)
      refine vp_skipU hF rfl rfl rfl rfl rfl rfl rfl (by decide) (fun a hF => ?_)
      refine vp_skipU hF rfl rfl rfl rfl rfl rfl rfl (by decide) (fun a hF => ?_)
      refine vp_skipU hF rfl rfl rfl rfl rfl rfl rfl (by decide) (fun a hF => ?_)
      refine vp_skipU hF rfl rfl rfl rfl rfl rfl rfl (by decide) (fun a hF => ?_)
      refine vp_skipU hF rfl rfl rfl rfl rfl rfl rfl (by decide) (fun a hF => ?_)
      refine vp_skipU hF rfl rfl rfl rfl rfl rfl rfl (by decide) (fun a hF => ?_)
      refine vp_skipU hF rfl rfl rfl rfl rfl rfl rfl (by decide) (fun a hF => ?_)
      refine vp_skipU hF rfl rfl rfl rfl rfl rfl rfl (by decide) (fun a hF => ?_)
      refine vp_skipU hF rfl rfl rfl rfl rfl rfl rfl (by decide) (fun a hF => ?_)
      refine vp_skipU hF rfl rfl rfl rfl rfl rfl rfl (by decide) (fun a hF => ?_)
      refine vp_skipU hF rfl rfl rfl rfl rfl rfl rfl (by decide) (fun a hF => ?_)
      refine vp_skipU hF rfl rfl rfl rfl rfl rfl rfl (by decide) (fun a hF => ?_)
      refine vp_skipU hF rfl rfl rfl rfl rfl rfl rfl (by decide) (fun a hF => ?_)
      refine vp_skip hF rfl rfl rfl rfl rfl rfl rfl rfl (by decide) (fun a hF => ?_)
      refine vp_ly hF rfl rfl rfl rfl (by decide) _ (y_pick rfl rfl rfl) (fun h => absurd h (by decide)) (fun a hF => ?_)
      refine plan_end ?_
      refine hK4 _ _ ?_; clear  hK4 K4
      refine vc_false hF rfl ?_
      apply wp_skip
      refine hK3 _ _ ?_; clear  hK3 K3
      apply wp_seq_k; intro K20 hK20
      apply wp_seq_k; intro K21 hK21
      refine wp_region_lit ?_
      refine vc_y hF rfl rfl (by decide) _ (y_field rfl Tryd.underlying26 rfl sz3_pl (by decide) rfl (rfl : (⟨_, 0 + _, none⟩ : Addr) = ⟨_, 0, none⟩)) (fun a hF => ?_)
      refine vc_y hF rfl rfl (by decide) _ (y_ld rfl hA31.q rfl 0 rfl rfl nr3_pl) (fun a hF => ?_)
      refine vc_nil ?_
      refine hK21 _ _ ?_; clear  hK21 K21
      apply wp_block
      apply wp_seq_k; intro K22 hK22
      refine wp_region_lit ?_
      refine vc_y hF rfl rfl (by decide) _ (y_cmp rfl rfl rfl rfl rfl) (fun a hF => ?_)
      refine vc_y hF rfl rfl (by decide) _ (y_assign rfl rfl) (fun a hF => ?_)
      refine vc_nil ?_
      refine hK22 _ _ ?_; clear  hK22 K22
      refine vc_falseB hF rfl (eql_f (by omega)) ?_
      apply wp_seq_k; intro K23 hK23
      refine wp_region_lit ?_
      refine vc_y hF rfl rfl (by decide) _ (y_cmp rfl rfl rfl rfl rfl) (fun a hF => ?_)
      refine vc_y hF rfl rfl (by decide) _ (y_assign rfl rfl) (fun a hF => ?_)
      refine vc_nil ?_
      refine hK23 _ _ ?_; clear  hK23 K23
      by_cases k2 : o.kind = 2
      · refine vc_trueB hF rfl (eql_t (by omega)) ?_
        apply wp_seq_k; intro K24 hK24
        refine wp_region_lit ?_
        refine vc_y hF rfl rfl (by decide) _ (y_field rfl Tryd.underlying26 rfl sz24_pl (by decide) rfl (rfl : (⟨_, 0 + _, none⟩ : Addr) = ⟨_, 2, none⟩)) (fun a hF => ?_)
        refine vc_y hF rfl rfl (by decide) _ (y_ld rfl hA31.q rfl 0 rfl rfl nr24_pl) (fun a hF => ?_)
        refine vc_op rfl (fun K hK => ws_call hF rfl (by decide) cl20_pl rfl rfl ?_)
        with_reducible refine (pl_roomyB w0 _ ([row b1 26 [.int .i64 o.kind, .int .i64 o.h, .slice o.pA o.p.length o.pC]] :: [row rb 31 [.slice (some ⟨bH, pH, none⟩) qs.length cH, .slice (some ⟨gT, BT.length, none⟩) qs.length cT, .int .i64 ((held : Nat) : Int)]] :: XH :: [row gT 24 (BT ++ qs.map (·.tv) ++ ZT)] :: (qs.map pxS).flatten :: R) o.pA o.p o.pC (hP.mono (subC (subC (subC (subC (subC (sub0))))))) hA31 (by omega) ).mono ?_
        rintro e' w32 ⟨g, rfl, hA33⟩
        refine ⟨_, rfl, fun a hF => hK _ _ ?_⟩
        clear hK K
        replace hA33 : Hp w0 ([row g 5 (cel cB (o.p ++ List.replicate 80 165))] :: [row b1 26 [.int .i64 o.kind, .int .i64 o.h, .slice o.pA o.p.length o.pC]] :: [row rb 31 [.slice (some ⟨bH, pH, none⟩) qs.length cH, .slice (some ⟨gT, BT.length, none⟩) qs.length cT, .int .i64 ((held : Nat) : Int)]] :: XH :: [row gT 24 (BT ++ qs.map (·.tv) ++ ZT)] :: (qs.map pxS).flatten :: R) w32 := hA33
        refine vc_y hF rfl rfl (by decide) _ (y_assign rfl rfl) (fun a hF => ?_)
        refine vc_nil ?_
        refine hK24 _ _ ?_; clear  hK24 K24
        apply wp_seq_k; intro K25 hK25
        refine wp_region_lit ?_
        refine vc_y hF rfl rfl (by decide) _ (y_move rfl rfl) (fun a hF => ?_)
        refine vc_y hF rfl rfl (by decide) _ (y_field rfl Tryd.underlying26 rfl sz24_pl (by decide) rfl (rfl : (⟨_, 0 + _, none⟩ : Addr) = ⟨_, 2, none⟩)) (fun a hF => ?_)
        refine vc_y hF rfl rfl (by decide) _ (y_ld rfl hA33.q rfl 1 rfl rfl nr24_pl) (fun a hF => ?_)
        refine vc_y hF rfl rfl (by decide) _ (y_lenSl rfl Tryd.underlying24 rfl rfl) (fun a hF => ?_)
        refine vc_y hF rfl rfl (by decide) _ (y_slice rfl Tryd.underlying24 kb_sz_byte rfl (.none 0) (.some rfl rfl) (Nat.zero_le _) (by omega) slice_to) (fun a hF => ?_)
        refine vc_y hF rfl rfl (by decide) _ (y_assign rfl rfl) (fun a hF => ?_)
        refine vc_nil ?_
        refine hK25 _ _ ?_; clear  hK25 K25
        apply wp_seq_k; intro K26 hK26
        have hA34 : Hp w0 ((qs.map pxS).flatten :: [row g 5 (cel cB (o.p ++ List.replicate 80 165))] :: [row b1 26 [.int .i64 o.kind, .int .i64 o.h, .slice o.pA o.p.length o.pC]] :: [row rb 31 [.slice (some ⟨bH, pH, none⟩) qs.length cH, .slice (some ⟨gT, BT.length, none⟩) qs.length cT, .int .i64 ((held : Nat) : Int)]] :: XH :: [row gT 24 (BT ++ qs.map (·.tv) ++ ZT)] :: R) w32 := Hp.ord [[row g 5 (cel cB (o.p ++ List.replicate 80 165))], [row b1 26 [.int .i64 o.kind, .int .i64 o.h, .slice o.pA o.p.length o.pC]], [row rb 31 [.slice (some ⟨bH, pH, none⟩) qs.length cH, .slice (some ⟨gT, BT.length, none⟩) qs.length cT, .int .i64 ((held : Nat) : Int)]], XH, [row gT 24 (BT ++ qs.map (·.tv) ++ ZT)], (qs.map pxS).flatten] R [5, 0, 1, 2, 3, 4] hA33 rfl
        have hA35 : Hp w0 (Yq :: Zq :: (((qs.map pxS).eraseIdx i).flatten) :: [row g 5 (cel cB (o.p ++ List.replicate 80 165))] :: [row b1 26 [.int .i64 o.kind, .int .i64 o.h, .slice o.pA o.p.length o.pC]] :: [row rb 31 [.slice (some ⟨bH, pH, none⟩) qs.length cH, .slice (some ⟨gT, BT.length, none⟩) qs.length cT, .int .i64 ((held : Nat) : Int)]] :: XH :: [row gT 24 (BT ++ qs.map (·.tv) ++ ZT)] :: R) w32 := (hA34.outS hqS).part
        refine wp_region_lit ?_
        refine vc_y hF rfl rfl (by decide) _ (y_move rfl rfl) (fun a hF => ?_)
        refine vc_y hF rfl rfl (by decide) _ (y_nilCheck rfl rfl) (fun a hF => ?_)
        refine vc_y hF rfl rfl (by decide) _ (y_field rfl Tryd.underlying31 rfl sz28_pl (by decide) rfl (rfl : (⟨_, 0 + _, none⟩ : Addr) = ⟨_, 0, none⟩)) (fun a hF => ?_)
        refine vc_y hF rfl rfl (by decide) _ (y_ld rfl hA35.q rfl 5 rfl rfl nr28_pl) (fun a hF => ?_)
        refine vc_y hF rfl rfl (by decide) _ (y_move rfl rfl) (fun a hF => ?_)
        refine vc_y hF rfl rfl (by decide) _ (y_ixSl rfl Tryd.underlying28 sz32_pl rfl rfl i rfl hiq (ad2 _ _ _)) (fun a hF => ?_)
        refine vc_y hF rfl rfl (by decide) _ (y_ldC (u := .pointer (some ⟨hb, 0, none⟩)) rfl (Hq.sub hA35.q (sub1 (List.mem_cons_of_mem _ (List.mem_cons_of_mem _ (List.mem_cons_of_mem _ (List.mem_cons_of_mem _ (List.mem_cons_of_mem _ (List.mem_cons_of_mem _ ((List.mem_cons_self ..)))))))))) rfl hcH i hiH rfl hqP nr32_pl) (fun a hF => ?_)
        refine vc_y hF rfl rfl (by decide) _ (y_move rfl rfl) (fun a hF => ?_)
        have hRg : Rd w0 (Zq :: (((qs.map pxS).eraseIdx i).flatten) :: [row g 5 (cel cB (o.p ++ List.replicate 80 165))] :: [row b1 26 [.int .i64 o.kind, .int .i64 o.h, .slice o.pA o.p.length o.pC]] :: [row rb 31 [.slice (some ⟨bH, pH, none⟩) qs.length cH, .slice (some ⟨gT, BT.length, none⟩) qs.length cT, .int .i64 ((held : Nat) : Int)]] :: XH :: [row gT 24 (BT ++ qs.map (·.tv) ++ ZT)] :: R) (some ⟨g, 0, none⟩) o.p := by
          have h1 : Rc w0 (Zq :: (((qs.map pxS).eraseIdx i).flatten) :: [row g 5 (cel cB (o.p ++ List.replicate 80 165))] :: [row b1 26 [.int .i64 o.kind, .int .i64 o.h, .slice o.pA o.p.length o.pC]] :: [row rb 31 [.slice (some ⟨bH, pH, none⟩) qs.length cH, .slice (some ⟨gT, BT.length, none⟩) qs.length cT, .int .i64 ((held : Nat) : Int)]] :: XH :: [row gT 24 (BT ++ qs.map (·.tv) ++ ZT)] :: R) (some ⟨g, 0, none⟩) (cel cB (o.p ++ List.replicate 80 165)) := Rc.ofRow (i := 2) (off := 0) rfl (by rw [List.drop_zero, List.take_length])
          have h2 := h1.take (cel cB o.p).length
          have e2 : (cel cB (o.p ++ List.replicate 80 165)).take (cel cB o.p).length = cel cB o.p := by rw [cel_append, List.take_left]
          rw [e2] at h2
          rw [Rd, cel_dc]; exact h2
        refine vc_op rfl (fun K hK => ws_call hF rfl (by decide) cl14_pl rfl rfl ?_)
        with_reducible refine (hc_write w0 _ (Zq :: (((qs.map pxS).eraseIdx i).flatten) :: [row g 5 (cel cB (o.p ++ List.replicate 80 165))] :: [row b1 26 [.int .i64 o.kind, .int .i64 o.h, .slice o.pA o.p.length o.pC]] :: [row rb 31 [.slice (some ⟨bH, pH, none⟩) qs.length cH, .slice (some ⟨gT, BT.length, none⟩) qs.length cT, .int .i64 ((held : Nat) : Int)]] :: XH :: [row gT 24 (BT ++ qs.map (·.tv) ++ ZT)] :: R) hb m Yq (some ⟨g, 0, none⟩) o.p (o.p.length + 80) hT hYq hRg (by omega) hA35 (by omega) ).mono ?_
        rintro e' w36 ⟨Y1, rfl, hY1, hA37⟩
        refine ⟨_, rfl, fun a hF => hK _ _ ?_⟩
        clear hK K
        replace hA37 : Hp w0 (Y1 :: Zq :: (((qs.map pxS).eraseIdx i).flatten) :: [row g 5 (cel cB (o.p ++ List.replicate 80 165))] :: [row b1 26 [.int .i64 o.kind, .int .i64 o.h, .slice o.pA o.p.length o.pC]] :: [row rb 31 [.slice (some ⟨bH, pH, none⟩) qs.length cH, .slice (some ⟨gT, BT.length, none⟩) qs.length cT, .int .i64 ((held : Nat) : Int)]] :: XH :: [row gT 24 (BT ++ qs.map (·.tv) ++ ZT)] :: R) w36 := hA37
        refine vc_nil ?_
        refine hK26 _ _ ?_; clear  hK26 K26
        apply wp_seq_k; intro K27 hK27
        apply wp_seq_k; intro K28 hK28
        refine wp_region_lit ?_
        refine vc_y hF rfl rfl (by decide) _ (y_move rfl rfl) (fun a hF => ?_)
        refine vc_y hF rfl rfl (by decide) _ (y_field rfl Tryd.underlying26 rfl sz24_pl (by decide) rfl (rfl : (⟨_, 0 + _, none⟩ : Addr) = ⟨_, 2, none⟩)) (fun a hF => ?_)
        refine vc_y hF rfl rfl (by decide) _ (y_ld rfl hA37.q rfl 4 rfl rfl nr24_pl) (fun a hF => ?_)
        refine vc_op rfl (fun K hK => ws_call hF rfl (by decide) cl22_pl rfl rfl ?_)
        with_reducible refine (pl_intactB w0 _ (Y1 :: Zq :: (((qs.map pxS).eraseIdx i).flatten) :: [row g 5 (cel cB (o.p ++ List.replicate 80 165))] :: [row b1 26 [.int .i64 o.kind, .int .i64 o.h, .slice o.pA o.p.length o.pC]] :: [row rb 31 [.slice (some ⟨bH, pH, none⟩) qs.length cH, .slice (some ⟨gT, BT.length, none⟩) qs.length cT, .int .i64 ((held : Nat) : Int)]] :: XH :: [row gT 24 (BT ++ qs.map (·.tv) ++ ZT)] :: R) (some ⟨g, 0, none⟩) o.pA o.p (o.p.length + 80) o.pC (Rc.ofRow (i := 3) (off := 0) rfl (by rw [List.drop_zero, List.take_length])) (hP.mono (subC (subC (subC (subC (subC (subC (subC (subC (sub0)))))))))) (Nat.le_refl _) hA37 (by omega) ).mono ?_
        rintro e' w38 ⟨rfl, hA39⟩
        refine ⟨_, rfl, fun a hF => hK _ _ ?_⟩
        clear hK K
        replace hA39 : Hp w0 (Y1 :: Zq :: (((qs.map pxS).eraseIdx i).flatten) :: [row g 5 (cel cB (o.p ++ List.replicate 80 165))] :: [row b1 26 [.int .i64 o.kind, .int .i64 o.h, .slice o.pA o.p.length o.pC]] :: [row rb 31 [.slice (some ⟨bH, pH, none⟩) qs.length cH, .slice (some ⟨gT, BT.length, none⟩) qs.length cT, .int .i64 ((held : Nat) : Int)]] :: XH :: [row gT 24 (BT ++ qs.map (·.tv) ++ ZT)] :: R) w38 := hA39
        refine vc_y hF rfl rfl (by decide) _ (y_not rfl rfl rfl) (fun a hF => ?_)
        refine vc_nil ?_
        refine hK28 _ _ ?_; clear  hK28 K28
        refine vc_false hF rfl ?_
        apply wp_skip
        refine hK27 _ _ ?_; clear  hK27 K27
        apply wp_seq_k; intro K29 hK29
        refine wp_region_plan 16 [14,16] [0,1,2,3,4,5,6,7,8,9,10,11,12,13,14,15,16] (fun x => Hq w0 (Y1 :: (((qs.map pxS).eraseIdx i).flatten) :: [row g 5 (cel cB (o.p ++ List.replicate 80 165))] :: [row b1 26 [.int .i64 o.kind, .int .i64 o.h, .slice o.pA o.p.length o.pC]] :: [row rb 31 [.slice (some ⟨bH, pH, none⟩) qs.length cH, .slice (some ⟨gT, BT.length, none⟩) qs.length cT, .int .i64 ((held : Nat) : Int)]] :: XH :: [row gT 24 (BT ++ qs.map (·.tv) ++ ZT)] :: R) x) (by kernel_rfl) (by kernel_rfl) (Hq.drew (Hp.qp [Y1, Zq, (((qs.map pxS).eraseIdx i).flatten), [row g 5 (cel cB (o.p ++ List.replicate 80 165))], [row b1 26 [.int .i64 o.kind, .int .i64 o.h, .slice o.pA o.p.length o.pC]], [row rb 31 [.slice (some ⟨bH, pH, none⟩) qs.length cH, .slice (some ⟨gT, BT.length, none⟩) qs.length cT, .int .i64 ((held : Nat) : Int)]], XH, [row gT 24 (BT ++ qs.map (·.tv) ++ ZT)]] R [0, 2, 3, 4, 5, 6, 7] hA39)) ?_
        have hA40 := Hl.drew hA39
        refine vp_y hF rfl rfl rfl rfl (by decide) _ (fun x hx => y_move rfl rfl) (fun a hF => ?_)
        refine vp_y hF rfl rfl rfl rfl (by decide) _ (fun x hx => y_nilCheck rfl rfl) (fun a hF => ?_)
        refine vp_y hF rfl rfl rfl rfl (by decide) _ (fun x hx => y_field rfl Tryd.underlying31 rfl sz29_pl (by decide) rfl (rfl : (⟨_, 0 + _, none⟩ : Addr) = ⟨_, 1, none⟩)) (fun a hF => ?_)
        refine vp_y hF rfl rfl rfl rfl (by decide) _ (fun x hx => y_ld rfl hx rfl 4 rfl rfl nr29_pl) (fun a hF => ?_)
        refine vp_y hF rfl rfl rfl rfl (by decide) _ (fun x hx => y_move rfl rfl) (fun a hF => ?_)
        refine vp_y hF rfl rfl rfl rfl (by decide) _ (fun x hx => y_move rfl rfl) (fun a hF => ?_)
        refine vp_y hF rfl rfl rfl rfl (by decide) _ (fun x hx => y_nilCheck rfl rfl) (fun a hF => ?_)
        refine vp_y hF rfl rfl rfl rfl (by decide) _ (fun x hx => y_field rfl Tryd.underlying31 rfl sz29_pl (by decide) rfl (rfl : (⟨_, 0 + _, none⟩ : Addr) = ⟨_, 1, none⟩)) (fun a hF => ?_)
        refine vp_y hF rfl rfl rfl rfl (by decide) _ (fun x hx => y_ld rfl hx rfl 4 rfl rfl nr29_pl) (fun a hF => ?_)
        refine vp_y hF rfl rfl rfl rfl (by decide) _ (fun x hx => y_move rfl rfl) (fun a hF => ?_)
        refine vp_y hF rfl rfl rfl rfl (by decide) _ (fun x hx => y_ixSl rfl Tryd.underlying29 sz24_pl rfl rfl i rfl hiq (ad2 _ _ _)) (fun a hF => ?_)
        refine vp_y hF rfl rfl rfl rfl (by decide) _ (fun x hx => y_ldC (u := .slice Am m.length cm) rfl (Hq.sub hx (sub1 (List.mem_cons_of_mem _ (List.mem_cons_of_mem _ (List.mem_cons_of_mem _ (List.mem_cons_of_mem _ (List.mem_cons_of_mem _ (List.mem_cons_of_mem _ ((List.mem_cons_self ..)))))))))) rfl hcT i hiT rfl hqT nr24_pl) (fun a hF => ?_)
        refine vp_y hF rfl rfl rfl rfl (by decide) _ (fun x hx => y_field rfl Tryd.underlying26 rfl sz24_pl (by decide) rfl (rfl : (⟨_, 0 + _, none⟩ : Addr) = ⟨_, 2, none⟩)) (fun a hF => ?_)
        refine vp_y hF rfl rfl rfl rfl (by decide) _ (fun x hx => y_ld rfl hx rfl 3 rfl rfl nr24_pl) (fun a hF => ?_)
        refine vp_l rfl rfl rfl (fun K hK => hs_append hF rfl (by decide) rfl hA40 1 rfl hZq Tryd.underlying24 pl_elemB rfl rfl (Rc.src (hP.mono (subC (subC (subC (subC (subC (subC (subC (subC (sub0)))))))))) hA40.q Tryd.underlying24) (by omega) (by decide) (fun tv2 Z2 w41 a hZ2 hF hA42 => hK _ _ (fun _ => ?_) ?_))
        · exact Hp.qp [Y1, Z2, (((qs.map pxS).eraseIdx i).flatten), [row g 5 (cel cB (o.p ++ List.replicate 80 165))], [row b1 26 [.int .i64 o.kind, .int .i64 o.h, .slice o.pA o.p.length o.pC]], [row rb 31 [.slice (some ⟨bH, pH, none⟩) qs.length cH, .slice (some ⟨gT, BT.length, none⟩) qs.length cT, .int .i64 ((held : Nat) : Int)]], XH, [row gT 24 (BT ++ qs.map (·.tv) ++ ZT)]] R [0, 2, 3, 4, 5, 6, 7] hA42
        clear hK K
        replace hA42 : Hp w0 (Y1 :: Z2 :: (((qs.map pxS).eraseIdx i).flatten) :: [row g 5 (cel cB (o.p ++ List.replicate 80 165))] :: [row b1 26 [.int .i64 o.kind, .int .i64 o.h, .slice o.pA o.p.length o.pC]] :: [row rb 31 [.slice (some ⟨bH, pH, none⟩) qs.length cH, .slice (some ⟨gT, BT.length, none⟩) qs.length cT, .int .i64 ((held : Nat) : Int)]] :: XH :: [row gT 24 (BT ++ qs.map (·.tv) ++ ZT)] :: R) w41 := hA42
        refine vp_y hF rfl rfl rfl rfl (by decide) _ (fun x hx => y_ixSl rfl Tryd.underlying29 sz24_pl rfl rfl i rfl hiq (ad2 _ _ _)) (fun a hF => ?_)
        refine vp_l rfl rfl rfl (fun K hK => hs_store1 hF rfl rfl hA42 rfl rfl 7 rfl hlT hZ2.one sz24_pl (fun w43 hA44 => hK _ _ (fun h => absurd h (by decide)) ?_))
        clear hK K
        replace hA44 : Hp w0 (Y1 :: Z2 :: (((qs.map pxS).eraseIdx i).flatten) :: [row g 5 (cel cB (o.p ++ List.replicate 80 165))] :: [row b1 26 [.int .i64 o.kind, .int .i64 o.h, .slice o.pA o.p.length o.pC]] :: [row rb 31 [.slice (some ⟨bH, pH, none⟩) qs.length cH, .slice (some ⟨gT, BT.length, none⟩) qs.length cT, .int .i64 ((held : Nat) : Int)]] :: XH :: [row gT 24 ((BT ++ qs.map (·.tv) ++ ZT).set (BT.length + i) tv2)] :: R) w43 := hA44
        refine plan_end ?_
        refine hK29 _ _ ?_; clear  hK29 K29
        apply wp_seq_k; intro K30 hK30
        apply wp_seq_k; intro K31 hK31
        refine wp_region_lit ?_
        refine vc_y hF rfl rfl (by decide) _ (y_assign rfl rfl) (fun a hF => ?_)
        refine vc_nil ?_
        refine hK31 _ _ ?_; clear  hK31 K31
        apply wp_block
        replace hZ2 : Buf 5 1 Z2 tv2 (m ++ o.p).length (dc (m ++ o.p)) := by rw [List.length_append, dc_append]; exact hZ2
        obtain ⟨A2, c2, rfl, _⟩ := hZ2.slice
        have hA45 : Hp w0 (Y1 :: Z2 :: (((qs.map pxS).eraseIdx i).flatten) :: [row g 5 (dc (o.p ++ List.replicate 80 165))] :: [row b1 26 [.int .i64 o.kind, .int .i64 o.h, .slice o.pA o.p.length o.pC]] :: [row rb 31 [.slice (some ⟨bH, pH, none⟩) qs.length cH, .slice (some ⟨gT, BT.length, none⟩) qs.length cT, .int .i64 ((held : Nat) : Int)]] :: XH :: [row gT 24 ((BT ++ qs.map (·.tv) ++ ZT).set (BT.length + i) (.slice A2 (m ++ o.p).length c2))] :: R) w43 := by rw [cel_dc]; exact hA44
        have hA46 : Hp w0 (Y1 :: Z2 :: (((qs.map pxS).eraseIdx i).flatten) :: [row b1 26 [.int .i64 o.kind, .int .i64 o.h, .slice o.pA o.p.length o.pC]] :: [row rb 31 [.slice (some ⟨bH, pH, none⟩) qs.length cH, .slice (some ⟨gT, BT.length, none⟩) qs.length cT, .int .i64 ((held : Nat) : Int)]] :: XH :: [row gT 24 ((BT ++ qs.map (·.tv) ++ ZT).set (BT.length + i) (.slice A2 (m ++ o.p).length c2))] :: [row g 5 (dc (o.p ++ List.replicate 80 165))] :: R) w43 := Hp.ord [Y1, Z2, (((qs.map pxS).eraseIdx i).flatten), [row g 5 (dc (o.p ++ List.replicate 80 165))], [row b1 26 [.int .i64 o.kind, .int .i64 o.h, .slice o.pA o.p.length o.pC]], [row rb 31 [.slice (some ⟨bH, pH, none⟩) qs.length cH, .slice (some ⟨gT, BT.length, none⟩) qs.length cT, .int .i64 ((held : Nat) : Int)]], XH, [row gT 24 ((BT ++ qs.map (·.tv) ++ ZT).set (BT.length + i) (.slice A2 (m ++ o.p).length c2))]] R [0, 1, 2, 4, 5, 6, 7, 3] hA45 rfl
        refine vc_loop (G := Nat) (fun j a x => ∃ (bs : List UInt8), j ≤ o.p.length + 80 ∧ bs.length = o.p.length + 80 ∧ Fr 197 [(8, .int .i64 (j : Int)), (0, .pointer (some ⟨rb, 0, none⟩)), (3, .pointer (some ⟨b1, 0, none⟩)), (5, .int .i64 (i : Int)), (6, .slice (some ⟨g, 0, none⟩) (o.p.length + 80) (o.p.length + 80)), (7, .slice (some ⟨g, 0, none⟩) o.p.length (o.p.length + 80))] a ∧ Hp w0 (Y1 :: Z2 :: (((qs.map pxS).eraseIdx i).flatten) :: [row b1 26 [.int .i64 o.kind, .int .i64 o.h, .slice o.pA o.p.length o.pC]] :: [row rb 31 [.slice (some ⟨bH, pH, none⟩) qs.length cH, .slice (some ⟨gT, BT.length, none⟩) qs.length cT, .int .i64 ((held : Nat) : Int)]] :: XH :: [row gT 24 ((BT ++ qs.map (·.tv) ++ ZT).set (BT.length + i) (.slice A2 (m ++ o.p).length c2))] :: [row g 5 (dc bs)] :: R) x) (fun j => o.p.length + 80 - j) 0 (⟨_, Nat.zero_le _, (by rw [List.length_append, List.length_replicate]), hF.keep [8, 0, 3, 5, 6, 7] rfl, hA46⟩) ?_
        clear hF
        rintro j a w48 ⟨bs, hj, hbs, hF, hA47⟩
        apply wp_seq_k; intro K32 hK32
        apply wp_seq_k; intro K33 hK33
        refine wp_region_lit ?_
        refine vc_y hF rfl rfl (by decide) _ (y_move rfl rfl) (fun a hF => ?_)
        refine vc_y hF rfl rfl (by decide) _ (y_move rfl rfl) (fun a hF => ?_)
        refine vc_y hF rfl rfl (by decide) _ (y_lenSl rfl Tryd.underlying24 rfl rfl) (fun a hF => ?_)
        refine vc_y hF rfl rfl (by decide) _ (y_cmp rfl rfl rfl rfl rfl) (fun a hF => ?_)
        refine vc_nil ?_
        refine hK33 _ _ ?_; clear  hK33 K33
        by_cases hlt : j < o.p.length + 80
        · refine vc_trueB hF rfl (lss_t (by omega)) ?_
          have hib : j < bs.length := by omega
          apply wp_skip
          refine hK32 _ _ ?_; clear  hK32 K32
          apply wp_seq_k; intro K34 hK34
          apply wp_block
          refine wp_region_lit ?_
          refine vc_y hF rfl rfl (by decide) _ (y_move rfl rfl) (fun a hF => ?_)
          refine vc_y hF rfl rfl (by decide) _ (y_move rfl rfl) (fun a hF => ?_)
          refine vc_y hF rfl rfl (by decide) _ (y_move rfl rfl) (fun a hF => ?_)
          refine vc_y hF rfl rfl (by decide) _ (y_move rfl rfl) (fun a hF => ?_)
          refine vc_y hF rfl rfl (by decide) _ (y_ixSl rfl Tryd.underlying24 sz5_pl rfl rfl j rfl hlt (ad2 _ _ _)) (fun a hF => ?_)
          refine vc_y hF rfl rfl (by decide) _ (y_ld (u := .int .u8 ((bAt bs j).toNat : Int)) rfl hA47.q rfl 7 rfl (by rw [Nat.zero_add]; exact dc_at hib) nr5_pl) (fun a hF => ?_)
          refine vc_y hF rfl rfl (by decide) _ (y_xor rfl rfl rfl (pl_xor _)) (fun a hF => ?_)
          refine vc_y hF rfl rfl (by decide) _ (y_ixSl rfl Tryd.underlying24 sz5_pl rfl rfl j rfl hlt (ad2 _ _ _)) (fun a hF => ?_)
          refine vc_op rfl (fun K hK => hs_store1 hF rfl rfl hA47 rfl rfl 7 rfl (by rw [dc_length]; omega) rfl sz5_pl (fun w49 hA50 => hK _ _ ?_))
          clear hK K
          replace hA50 : Hp w0 (Y1 :: Z2 :: (((qs.map pxS).eraseIdx i).flatten) :: [row b1 26 [.int .i64 o.kind, .int .i64 o.h, .slice o.pA o.p.length o.pC]] :: [row rb 31 [.slice (some ⟨bH, pH, none⟩) qs.length cH, .slice (some ⟨gT, BT.length, none⟩) qs.length cT, .int .i64 ((held : Nat) : Int)]] :: XH :: [row gT 24 ((BT ++ qs.map (·.tv) ++ ZT).set (BT.length + i) (.slice A2 (m ++ o.p).length c2))] :: [row g 5 ((dc bs).set (0 + j) (.int .u8 ((plFlip (bAt bs j)).toNat : Int)))] :: R) w49 := hA50
          have hA51 : Hp w0 (Y1 :: Z2 :: (((qs.map pxS).eraseIdx i).flatten) :: [row b1 26 [.int .i64 o.kind, .int .i64 o.h, .slice o.pA o.p.length o.pC]] :: [row rb 31 [.slice (some ⟨bH, pH, none⟩) qs.length cH, .slice (some ⟨gT, BT.length, none⟩) qs.length cT, .int .i64 ((held : Nat) : Int)]] :: XH :: [row gT 24 ((BT ++ qs.map (·.tv) ++ ZT).set (BT.length + i) (.slice A2 (m ++ o.p).length c2))] :: [row g 5 (dc (bs.set j (plFlip (bAt bs j))))] :: R) w49 := by rw [← pl_set]; exact hA50
          refine vc_nil ?_
          refine hK34 _ _ ?_; clear  hK34 K34
          refine wp_region_lit ?_
          refine vc_y hF rfl rfl (by decide) _ (y_move rfl rfl) (fun a hF => ?_)
          refine vc_y hF rfl rfl (by decide) _ (y_add rfl rfl rfl (IntWalk.i64_in _ (by omega))) (fun a hF => ?_)
          refine vc_y hF rfl rfl (by decide) _ (y_assign rfl rfl) (fun a hF => ?_)
          refine vc_nil ?_
          exact ⟨j + 1, by omega, _, by omega, (by rw [List.length_set]; exact hbs), hF.keep [8, 0, 3, 5, 6, 7] rfl, hA51⟩
        · refine vc_falseB hF rfl (lss_f (by omega)) ?_
          apply wp_exit
          refine hK30 _ _ ?_; clear hK32 K32 hK30 K30
          apply wp_seq_k; intro K35 hK35
          refine wp_region_lit ?_
          refine vc_y hF rfl rfl (by decide) _ (y_field rfl Tryd.underlying26 rfl sz24_pl (by decide) rfl (rfl : (⟨_, 0 + _, none⟩ : Addr) = ⟨_, 2, none⟩)) (fun a hF => ?_)
          refine vc_y hF rfl rfl (by decide) _ (y_ld rfl hA47.q rfl 3 rfl rfl nr24_pl) (fun a hF => ?_)
          refine vc_y hF rfl rfl (by decide) _ (y_lenSl rfl Tryd.underlying24 rfl rfl) (fun a hF => ?_)
          refine vc_y hF rfl rfl (by decide) _ (y_rem (r := ((o.p.length % 3 : Nat) : Int)) rfl rfl rfl (by decide) (by rw [Int.tmod_eq_emod_of_nonneg (by omega)]; omega)) (fun a hF => ?_)
          refine vc_y hF rfl rfl (by decide) _ (y_cmp rfl rfl rfl rfl rfl) (fun a hF => ?_)
          refine vc_nil ?_
          refine hK35 _ _ ?_; clear  hK35 K35
          by_cases h31 : o.p.length % 3 = 1
          · refine vc_trueB hF rfl (eql_t (by omega)) ?_
            have hp2 : (bs.take o.p.length).length = o.p.length := by rw [List.length_take]; omega
            apply wp_seq_k; intro K36 hK36
            refine wp_region_plan 15 [13,15] [0,1,2,3,4,5,6,7,8,9,10,11,12,13,14,15] (fun x => Hq w0 (Y1 :: (((qs.map pxS).eraseIdx i).flatten) :: [row b1 26 [.int .i64 o.kind, .int .i64 o.h, .slice o.pA o.p.length o.pC]] :: [row rb 31 [.slice (some ⟨bH, pH, none⟩) qs.length cH, .slice (some ⟨gT, BT.length, none⟩) qs.length cT, .int .i64 ((held : Nat) : Int)]] :: XH :: [row gT 24 ((BT ++ qs.map (·.tv) ++ ZT).set (BT.length + i) (.slice A2 (m ++ o.p).length c2))] :: [row g 5 (dc bs)] :: R) x) (by kernel_rfl) (by kernel_rfl) (Hq.drew (Hp.qp [Y1, Z2, (((qs.map pxS).eraseIdx i).flatten), [row b1 26 [.int .i64 o.kind, .int .i64 o.h, .slice o.pA o.p.length o.pC]], [row rb 31 [.slice (some ⟨bH, pH, none⟩) qs.length cH, .slice (some ⟨gT, BT.length, none⟩) qs.length cT, .int .i64 ((held : Nat) : Int)]], XH, [row gT 24 ((BT ++ qs.map (·.tv) ++ ZT).set (BT.length + i) (.slice A2 (m ++ o.p).length c2))], [row g 5 (dc bs)]] R [0, 2, 3, 4, 5, 6, 7] hA47)) ?_
            have hA52 := Hl.drew hA47
            refine vp_y hF rfl rfl rfl rfl (by decide) _ (fun x hx => y_move rfl rfl) (fun a hF => ?_)
            refine vp_y hF rfl rfl rfl rfl (by decide) _ (fun x hx => y_nilCheck rfl rfl) (fun a hF => ?_)
            refine vp_y hF rfl rfl rfl rfl (by decide) _ (fun x hx => y_field rfl Tryd.underlying31 rfl sz29_pl (by decide) rfl (rfl : (⟨_, 0 + _, none⟩ : Addr) = ⟨_, 1, none⟩)) (fun a hF => ?_)
            refine vp_y hF rfl rfl rfl rfl (by decide) _ (fun x hx => y_ld rfl hx rfl 3 rfl rfl nr29_pl) (fun a hF => ?_)
            refine vp_y hF rfl rfl rfl rfl (by decide) _ (fun x hx => y_move rfl rfl) (fun a hF => ?_)
            refine vp_y hF rfl rfl rfl rfl (by decide) _ (fun x hx => y_move rfl rfl) (fun a hF => ?_)
            refine vp_y hF rfl rfl rfl rfl (by decide) _ (fun x hx => y_nilCheck rfl rfl) (fun a hF => ?_)
            refine vp_y hF rfl rfl rfl rfl (by decide) _ (fun x hx => y_field rfl Tryd.underlying31 rfl sz29_pl (by decide) rfl (rfl : (⟨_, 0 + _, none⟩ : Addr) = ⟨_, 1, none⟩)) (fun a hF => ?_)
            refine vp_y hF rfl rfl rfl rfl (by decide) _ (fun x hx => y_ld rfl hx rfl 3 rfl rfl nr29_pl) (fun a hF => ?_)
            refine vp_y hF rfl rfl rfl rfl (by decide) _ (fun x hx => y_move rfl rfl) (fun a hF => ?_)
            refine vp_y hF rfl rfl rfl rfl (by decide) _ (fun x hx => y_ixSl rfl Tryd.underlying29 sz24_pl rfl rfl i rfl hiq (ad2 _ _ _)) (fun a hF => ?_)
            refine vp_y hF rfl rfl rfl rfl (by decide) _ (fun x hx => y_ld (u := .slice A2 (m ++ o.p).length c2) rfl hx rfl 5 rfl (List.getElem?_set_self hlT) nr24_pl) (fun a hF => ?_)
            refine vp_y hF rfl rfl rfl rfl (by decide) _ (fun x hx => y_move rfl rfl) (fun a hF => ?_)
            have hRg53 : Rd w0 (Y1 :: Z2 :: (((qs.map pxS).eraseIdx i).flatten) :: [row b1 26 [.int .i64 o.kind, .int .i64 o.h, .slice o.pA o.p.length o.pC]] :: [row rb 31 [.slice (some ⟨bH, pH, none⟩) qs.length cH, .slice (some ⟨gT, BT.length, none⟩) qs.length cT, .int .i64 ((held : Nat) : Int)]] :: XH :: [row gT 24 ((BT ++ qs.map (·.tv) ++ ZT).set (BT.length + i) (.slice A2 (m ++ o.p).length c2))] :: [row g 5 (dc bs)] :: R) (some ⟨g, 0, none⟩) (bs.take o.p.length) := by
              have h1 : Rc w0 (Y1 :: Z2 :: (((qs.map pxS).eraseIdx i).flatten) :: [row b1 26 [.int .i64 o.kind, .int .i64 o.h, .slice o.pA o.p.length o.pC]] :: [row rb 31 [.slice (some ⟨bH, pH, none⟩) qs.length cH, .slice (some ⟨gT, BT.length, none⟩) qs.length cT, .int .i64 ((held : Nat) : Int)]] :: XH :: [row gT 24 ((BT ++ qs.map (·.tv) ++ ZT).set (BT.length + i) (.slice A2 (m ++ o.p).length c2))] :: [row g 5 (dc bs)] :: R) (some ⟨g, 0, none⟩) (dc bs) := Rc.ofRow (i := 7) (off := 0) rfl (by rw [List.drop_zero, List.take_length])
              have h2 := h1.take o.p.length
              rw [Go.Dk.dc_take] at h2; exact h2
            refine vp_l rfl rfl rfl (fun K hK => hs_append hF rfl (by decide) rfl hA52 1 rfl hZ2 Tryd.underlying24 pl_elemB rfl rfl ((by have h := Rc.src (c := o.p.length + 80) hRg53 hA52.q Tryd.underlying24; rw [hp2] at h; exact h)) (by simp only [List.length_append]; omega) (by decide) (fun tv3 Z3 w54 a hZ3 hF hA55 => hK _ _ (fun _ => ?_) ?_))
            · exact Hp.qp [Y1, Z3, (((qs.map pxS).eraseIdx i).flatten), [row b1 26 [.int .i64 o.kind, .int .i64 o.h, .slice o.pA o.p.length o.pC]], [row rb 31 [.slice (some ⟨bH, pH, none⟩) qs.length cH, .slice (some ⟨gT, BT.length, none⟩) qs.length cT, .int .i64 ((held : Nat) : Int)]], XH, [row gT 24 ((BT ++ qs.map (·.tv) ++ ZT).set (BT.length + i) (.slice A2 (m ++ o.p).length c2))], [row g 5 (dc bs)]] R [0, 2, 3, 4, 5, 6, 7] hA55
            clear hK K
            replace hA55 : Hp w0 (Y1 :: Z3 :: (((qs.map pxS).eraseIdx i).flatten) :: [row b1 26 [.int .i64 o.kind, .int .i64 o.h, .slice o.pA o.p.length o.pC]] :: [row rb 31 [.slice (some ⟨bH, pH, none⟩) qs.length cH, .slice (some ⟨gT, BT.length, none⟩) qs.length cT, .int .i64 ((held : Nat) : Int)]] :: XH :: [row gT 24 ((BT ++ qs.map (·.tv) ++ ZT).set (BT.length + i) (.slice A2 (m ++ o.p).length c2))] :: [row g 5 (dc bs)] :: R) w54 := hA55
            refine vp_y hF rfl rfl rfl rfl (by decide) _ (fun x hx => y_ixSl rfl Tryd.underlying29 sz24_pl rfl rfl i rfl hiq (ad2 _ _ _)) (fun a hF => ?_)
            refine vp_l rfl rfl rfl (fun K hK => hs_store1 hF rfl rfl hA55 rfl rfl 6 rfl (by rw [List.length_set]; exact hlT) hZ3.one sz24_pl (fun w56 hA57 => hK _ _ (fun h => absurd h (by decide)) ?_))
            clear hK K
            replace hA57 : Hp w0 (Y1 :: Z3 :: (((qs.map pxS).eraseIdx i).flatten) :: [row b1 26 [.int .i64 o.kind, .int .i64 o.h, .slice o.pA o.p.length o.pC]] :: [row rb 31 [.slice (some ⟨bH, pH, none⟩) qs.length cH, .slice (some ⟨gT, BT.length, none⟩) qs.length cT, .int .i64 ((held : Nat) : Int)]] :: XH :: [row gT 24 (((BT ++ qs.map (·.tv) ++ ZT).set (BT.length + i) (.slice A2 (m ++ o.p).length c2)).set (BT.length + i) tv3)] :: [row g 5 (dc bs)] :: R) w56 := hA57
            refine plan_end ?_
            refine hK36 _ _ ?_; clear  hK36 K36
            replace hZ3 : Buf 5 1 Z3 tv3 (m ++ o.p ++ (bs.take o.p.length)).length (dc (m ++ o.p ++ (bs.take o.p.length))) := by
              rw [List.length_append, dc_append, hp2]; exact hZ3
            obtain ⟨A3, c3, rfl, _⟩ := hZ3.slice
            have hA58 : Hp w0 (Y1 :: Z3 :: (((qs.map pxS).eraseIdx i).flatten) :: [row b1 26 [.int .i64 o.kind, .int .i64 o.h, .slice o.pA o.p.length o.pC]] :: [row rb 31 [.slice (some ⟨bH, pH, none⟩) qs.length cH, .slice (some ⟨gT, BT.length, none⟩) qs.length cT, .int .i64 ((held : Nat) : Int)]] :: XH :: [row gT 24 ((BT ++ qs.map (·.tv) ++ ZT).set (BT.length + i) (.slice A3 (m ++ o.p ++ (bs.take o.p.length)).length c3))] :: [row g 5 (dc bs)] :: R) w56 := by
              have h := hA57
              rw [List.set_set] at h
              exact h
            refine wp_region_lit ?_
            refine vc_y hF rfl rfl (by decide) _ (y_move rfl rfl) (fun a hF => ?_)
            refine vc_y hF rfl rfl (by decide) _ (y_nilCheck rfl rfl) (fun a hF => ?_)
            refine vc_y hF rfl rfl (by decide) _ (y_field rfl Tryd.underlying31 rfl sz28_pl (by decide) rfl (rfl : (⟨_, 0 + _, none⟩ : Addr) = ⟨_, 0, none⟩)) (fun a hF => ?_)
            refine vc_y hF rfl rfl (by decide) _ (y_ld rfl hA58.q rfl 4 rfl rfl nr28_pl) (fun a hF => ?_)
            refine vc_y hF rfl rfl (by decide) _ (y_move rfl rfl) (fun a hF => ?_)
            refine vc_y hF rfl rfl (by decide) _ (y_ixSl rfl Tryd.underlying28 sz32_pl rfl rfl i rfl hiq (ad2 _ _ _)) (fun a hF => ?_)
            refine vc_y hF rfl rfl (by decide) _ (y_ldC (u := .pointer (some ⟨hb, 0, none⟩)) rfl (Hq.sub hA58.q (sub1 (List.mem_cons_of_mem _ (List.mem_cons_of_mem _ (List.mem_cons_of_mem _ (List.mem_cons_of_mem _ (List.mem_cons_of_mem _ ((List.mem_cons_self ..))))))))) rfl hcH i hiH rfl hqP nr32_pl) (fun a hF => ?_)
            refine vc_y hF rfl rfl (by decide) _ (y_move rfl rfl) (fun a hF => ?_)
            have hRg59 : Rd w0 (Z3 :: (((qs.map pxS).eraseIdx i).flatten) :: [row b1 26 [.int .i64 o.kind, .int .i64 o.h, .slice o.pA o.p.length o.pC]] :: [row rb 31 [.slice (some ⟨bH, pH, none⟩) qs.length cH, .slice (some ⟨gT, BT.length, none⟩) qs.length cT, .int .i64 ((held : Nat) : Int)]] :: XH :: [row gT 24 ((BT ++ qs.map (·.tv) ++ ZT).set (BT.length + i) (.slice A3 (m ++ o.p ++ (bs.take o.p.length)).length c3))] :: [row g 5 (dc bs)] :: R) (some ⟨g, 0, none⟩) (bs.take o.p.length) := by
              have h1 : Rc w0 (Z3 :: (((qs.map pxS).eraseIdx i).flatten) :: [row b1 26 [.int .i64 o.kind, .int .i64 o.h, .slice o.pA o.p.length o.pC]] :: [row rb 31 [.slice (some ⟨bH, pH, none⟩) qs.length cH, .slice (some ⟨gT, BT.length, none⟩) qs.length cT, .int .i64 ((held : Nat) : Int)]] :: XH :: [row gT 24 ((BT ++ qs.map (·.tv) ++ ZT).set (BT.length + i) (.slice A3 (m ++ o.p ++ (bs.take o.p.length)).length c3))] :: [row g 5 (dc bs)] :: R) (some ⟨g, 0, none⟩) (dc bs) := Rc.ofRow (i := 6) (off := 0) rfl (by rw [List.drop_zero, List.take_length])
              have h2 := h1.take o.p.length
              rw [Go.Dk.dc_take] at h2; exact h2
            refine vc_op rfl (fun K hK => ws_call hF rfl (by decide) cl14_pl rfl rfl ?_)
            with_reducible refine (hc_writeN w0 _ (Z3 :: (((qs.map pxS).eraseIdx i).flatten) :: [row b1 26 [.int .i64 o.kind, .int .i64 o.h, .slice o.pA o.p.length o.pC]] :: [row rb 31 [.slice (some ⟨bH, pH, none⟩) qs.length cH, .slice (some ⟨gT, BT.length, none⟩) qs.length cT, .int .i64 ((held : Nat) : Int)]] :: XH :: [row gT 24 ((BT ++ qs.map (·.tv) ++ ZT).set (BT.length + i) (.slice A3 (m ++ o.p ++ (bs.take o.p.length)).length c3))] :: [row g 5 (dc bs)] :: R) hb (m ++ o.p) Y1 (some ⟨g, 0, none⟩) (bs.take o.p.length) (o.p.length + 80) o.p.length hp2.symm hT hY1 hRg59 (by omega) hA58 (by rw [hp2, List.length_append]; omega) ).mono ?_
            rintro e' w60 ⟨Y2, rfl, hY2, hA61⟩
            refine ⟨_, rfl, fun a hF => hK _ _ ?_⟩
            clear hK K
            replace hA61 : Hp w0 (Y2 :: Z3 :: (((qs.map pxS).eraseIdx i).flatten) :: [row b1 26 [.int .i64 o.kind, .int .i64 o.h, .slice o.pA o.p.length o.pC]] :: [row rb 31 [.slice (some ⟨bH, pH, none⟩) qs.length cH, .slice (some ⟨gT, BT.length, none⟩) qs.length cT, .int .i64 ((held : Nat) : Int)]] :: XH :: [row gT 24 ((BT ++ qs.map (·.tv) ++ ZT).set (BT.length + i) (.slice A3 (m ++ o.p ++ (bs.take o.p.length)).length c3))] :: [row g 5 (dc bs)] :: R) w60 := hA61
            refine vc_nil ?_
            refine hK20 _ _ ?_; clear  hK20 K20
            apply wp_seq_k; intro K37 hK37
            refine wp_region_lit ?_
            refine vc_y hF rfl rfl (by decide) _ (y_assign rfl rfl) (fun a hF => ?_)
            refine vc_nil ?_
            refine hK37 _ _ ?_; clear  hK37 K37
            apply wp_ret
            refine vc_ret1 hF Tryd.results18 rfl ?_
            have hA62 : Hp w0 (Y2 :: Z3 :: (((qs.map pxS).eraseIdx i).flatten) :: [row rb 31 [.slice (some ⟨bH, pH, none⟩) qs.length cH, .slice (some ⟨gT, BT.length, none⟩) qs.length cT, .int .i64 ((held : Nat) : Int)]] :: XH :: [row gT 24 ((BT ++ qs.map (·.tv) ++ ZT).set (BT.length + i) (.slice A3 (m ++ o.p ++ (bs.take o.p.length)).length c3))] :: R) w60 := Hp.sel [Y2, Z3, (((qs.map pxS).eraseIdx i).flatten), [row b1 26 [.int .i64 o.kind, .int .i64 o.h, .slice o.pA o.p.length o.pC]], [row rb 31 [.slice (some ⟨bH, pH, none⟩) qs.length cH, .slice (some ⟨gT, BT.length, none⟩) qs.length cT, .int .i64 ((held : Nat) : Int)]], XH, [row gT 24 ((BT ++ qs.map (·.tv) ++ ZT).set (BT.length + i) (.slice A3 (m ++ o.p ++ (bs.take o.p.length)).length c3))], [row g 5 (dc bs)]] R [0, 1, 2, 4, 5, 6] [3, 7] hA61 rfl
            have hA63 : Hp w0 ((((qs.map pxS).set i (Y2 ++ Z3)).flatten) :: [row rb 31 [.slice (some ⟨bH, pH, none⟩) qs.length cH, .slice (some ⟨gT, BT.length, none⟩) qs.length cT, .int .i64 ((held : Nat) : Int)]] :: XH :: [row gT 24 ((BT ++ qs.map (·.tv) ++ ZT).set (BT.length + i) (.slice A3 (m ++ o.p ++ (bs.take o.p.length)).length c3))] :: R) w60 := (Hp.join hA62).inS (by rw [List.length_map]; omega)
            have hA64 : Hp w0 ([row rb 31 [.slice (some ⟨bH, pH, none⟩) qs.length cH, .slice (some ⟨gT, BT.length, none⟩) qs.length cT, .int .i64 ((held : Nat) : Int)]] :: XH :: [row gT 24 ((BT ++ qs.map (·.tv) ++ ZT).set (BT.length + i) (.slice A3 (m ++ o.p ++ (bs.take o.p.length)).length c3))] :: (((qs.map pxS).set i (Y2 ++ Z3)).flatten) :: R) w60 := Hp.ord [(((qs.map pxS).set i (Y2 ++ Z3)).flatten), [row rb 31 [.slice (some ⟨bH, pH, none⟩) qs.length cH, .slice (some ⟨gT, BT.length, none⟩) qs.length cT, .int .i64 ((held : Nat) : Int)]], XH, [row gT 24 ((BT ++ qs.map (·.tv) ++ ZT).set (BT.length + i) (.slice A3 (m ++ o.p ++ (bs.take o.p.length)).length c3))]] R [1, 2, 3, 0] hA63 rfl
            have hqs2 : ∀ q ∈ qs.set i (⟨hb, m ++ o.p ++ (bs.take o.p.length), Y2, .slice A3 (m ++ o.p ++ (bs.take o.p.length)).length c3, Z3⟩ : PX), PXok (T + 2 * o.p.length) q := fun q h => by
              rcases List.mem_or_eq_of_mem_set h with h | rfl
              · exact ⟨(hqs q h).1, Nat.le_trans (hqs q h).2 (by omega)⟩
              · exact ⟨⟨hY2, hZ3⟩, by show (m ++ o.p ++ (bs.take o.p.length)).length ≤ _; simp only [List.length_append, List.length_take]; omega⟩
            have hlen : (qs.set i (⟨hb, m ++ o.p ++ (bs.take o.p.length), Y2, .slice A3 (m ++ o.p ++ (bs.take o.p.length)).length c3, Z3⟩ : PX)).length = qs.length := List.length_set
            have hHs3 : Buf 32 1 XH (.slice (some ⟨bH, pH, none⟩) qs.length cH) (qs.set i (⟨hb, m ++ o.p ++ (bs.take o.p.length), Y2, .slice A3 (m ++ o.p ++ (bs.take o.p.length)).length c3, Z3⟩ : PX)).length ((qs.set i (⟨hb, m ++ o.p ++ (bs.take o.p.length), Y2, .slice A3 (m ++ o.p ++ (bs.take o.p.length)).length c3, Z3⟩ : PX)).map pxP) := by rw [hlen, map_set_same (f := pxP) (q' := (⟨hb, m ++ o.p ++ (bs.take o.p.length), Y2, .slice A3 (m ++ o.p ++ (bs.take o.p.length)).length c3, Z3⟩ : PX)) hq rfl]; exact hHs
            have hTx3 : Buf 24 1 [row gT 24 ((BT ++ qs.map (·.tv) ++ ZT).set (BT.length + i) (.slice A3 (m ++ o.p ++ (bs.take o.p.length)).length c3))] (.slice (some ⟨gT, BT.length, none⟩) qs.length cT) (qs.set i (⟨hb, m ++ o.p ++ (bs.take o.p.length), Y2, .slice A3 (m ++ o.p ++ (bs.take o.p.length)).length c3, Z3⟩ : PX)).length ((qs.set i (⟨hb, m ++ o.p ++ (bs.take o.p.length), Y2, .slice A3 (m ++ o.p ++ (bs.take o.p.length)).length c3, Z3⟩ : PX)).map (·.tv)) := by rw [hlen, List.map_set]; exact hTset (.slice A3 (m ++ o.p ++ (bs.take o.p.length)).length c3)
            have hfin : Hp w0 ((row rb 31 [.slice (some ⟨bH, pH, none⟩) qs.length cH, .slice (some ⟨gT, BT.length, none⟩) qs.length cT, .int .i64 ((held : Nat) : Int)] :: (XH ++ ([row gT 24 ((BT ++ qs.map (·.tv) ++ ZT).set (BT.length + i) (.slice A3 (m ++ o.p ++ (bs.take o.p.length)).length c3))] ++ ((qs.set i (⟨hb, m ++ o.p ++ (bs.take o.p.length), Y2, .slice A3 (m ++ o.p ++ (bs.take o.p.length)).length c3, Z3⟩ : PX)).map pxS).flatten))) :: R) w60 := by
              rw [List.map_set]
              exact hA64.cast (by simp [pxS])
            exact ⟨qs.length, held, _, rfl, ⟨Nat.le_refl _, hnb⟩, hheld, ⟨qs.set i (⟨hb, m ++ o.p ++ (bs.take o.p.length), Y2, .slice A3 (m ++ o.p ++ (bs.take o.p.length)).length c3, Z3⟩ : PX), _, _, XH, _, hlen, hqs2, hHs3, hTx3, rfl⟩, hfin⟩
          · refine vc_falseB hF rfl (eql_f (by omega)) ?_
            apply wp_skip
            refine hK20 _ _ ?_; clear  hK20 K20
            apply wp_seq_k; intro K38 hK38
            refine wp_region_lit ?_
            refine vc_y hF rfl rfl (by decide) _ (y_assign rfl rfl) (fun a hF => ?_)
            refine vc_nil ?_
            refine hK38 _ _ ?_; clear  hK38 K38
            apply wp_ret
            refine vc_ret1 hF Tryd.results18 rfl ?_
            have hA65 : Hp w0 (Y1 :: Z2 :: (((qs.map pxS).eraseIdx i).flatten) :: [row rb 31 [.slice (some ⟨bH, pH, none⟩) qs.length cH, .slice (some ⟨gT, BT.length, none⟩) qs.length cT, .int .i64 ((held : Nat) : Int)]] :: XH :: [row gT 24 ((BT ++ qs.map (·.tv) ++ ZT).set (BT.length + i) (.slice A2 (m ++ o.p).length c2))] :: R) w48 := Hp.sel [Y1, Z2, (((qs.map pxS).eraseIdx i).flatten), [row b1 26 [.int .i64 o.kind, .int .i64 o.h, .slice o.pA o.p.length o.pC]], [row rb 31 [.slice (some ⟨bH, pH, none⟩) qs.length cH, .slice (some ⟨gT, BT.length, none⟩) qs.length cT, .int .i64 ((held : Nat) : Int)]], XH, [row gT 24 ((BT ++ qs.map (·.tv) ++ ZT).set (BT.length + i) (.slice A2 (m ++ o.p).length c2))], [row g 5 (dc bs)]] R [0, 1, 2, 4, 5, 6] [3, 7] hA47 rfl
            have hA66 : Hp w0 ((((qs.map pxS).set i (Y1 ++ Z2)).flatten) :: [row rb 31 [.slice (some ⟨bH, pH, none⟩) qs.length cH, .slice (some ⟨gT, BT.length, none⟩) qs.length cT, .int .i64 ((held : Nat) : Int)]] :: XH :: [row gT 24 ((BT ++ qs.map (·.tv) ++ ZT).set (BT.length + i) (.slice A2 (m ++ o.p).length c2))] :: R) w48 := (Hp.join hA65).inS (by rw [List.length_map]; omega)
            have hA67 : Hp w0 ([row rb 31 [.slice (some ⟨bH, pH, none⟩) qs.length cH, .slice (some ⟨gT, BT.length, none⟩) qs.length cT, .int .i64 ((held : Nat) : Int)]] :: XH :: [row gT 24 ((BT ++ qs.map (·.tv) ++ ZT).set (BT.length + i) (.slice A2 (m ++ o.p).length c2))] :: (((qs.map pxS).set i (Y1 ++ Z2)).flatten) :: R) w48 := Hp.ord [(((qs.map pxS).set i (Y1 ++ Z2)).flatten), [row rb 31 [.slice (some ⟨bH, pH, none⟩) qs.length cH, .slice (some ⟨gT, BT.length, none⟩) qs.length cT, .int .i64 ((held : Nat) : Int)]], XH, [row gT 24 ((BT ++ qs.map (·.tv) ++ ZT).set (BT.length + i) (.slice A2 (m ++ o.p).length c2))]] R [1, 2, 3, 0] hA66 rfl
            have hqs2 : ∀ q ∈ qs.set i (⟨hb, m ++ o.p, Y1, .slice A2 (m ++ o.p).length c2, Z2⟩ : PX), PXok (T + 2 * o.p.length) q := fun q h => by
              rcases List.mem_or_eq_of_mem_set h with h | rfl
              · exact ⟨(hqs q h).1, Nat.le_trans (hqs q h).2 (by omega)⟩
              · exact ⟨⟨hY1, hZ2⟩, by show (m ++ o.p).length ≤ _; simp only [List.length_append, List.length_take]; omega⟩
            have hlen : (qs.set i (⟨hb, m ++ o.p, Y1, .slice A2 (m ++ o.p).length c2, Z2⟩ : PX)).length = qs.length := List.length_set
            have hHs3 : Buf 32 1 XH (.slice (some ⟨bH, pH, none⟩) qs.length cH) (qs.set i (⟨hb, m ++ o.p, Y1, .slice A2 (m ++ o.p).length c2, Z2⟩ : PX)).length ((qs.set i (⟨hb, m ++ o.p, Y1, .slice A2 (m ++ o.p).length c2, Z2⟩ : PX)).map pxP) := by rw [hlen, map_set_same (f := pxP) (q' := (⟨hb, m ++ o.p, Y1, .slice A2 (m ++ o.p).length c2, Z2⟩ : PX)) hq rfl]; exact hHs
            have hTx3 : Buf 24 1 [row gT 24 ((BT ++ qs.map (·.tv) ++ ZT).set (BT.length + i) (.slice A2 (m ++ o.p).length c2))] (.slice (some ⟨gT, BT.length, none⟩) qs.length cT) (qs.set i (⟨hb, m ++ o.p, Y1, .slice A2 (m ++ o.p).length c2, Z2⟩ : PX)).length ((qs.set i (⟨hb, m ++ o.p, Y1, .slice A2 (m ++ o.p).length c2, Z2⟩ : PX)).map (·.tv)) := by rw [hlen, List.map_set]; exact hTset (.slice A2 (m ++ o.p).length c2)
            have hfin : Hp w0 ((row rb 31 [.slice (some ⟨bH, pH, none⟩) qs.length cH, .slice (some ⟨gT, BT.length, none⟩) qs.length cT, .int .i64 ((held : Nat) : Int)] :: (XH ++ ([row gT 24 ((BT ++ qs.map (·.tv) ++ ZT).set (BT.length + i) (.slice A2 (m ++ o.p).length c2))] ++ ((qs.set i (⟨hb, m ++ o.p, Y1, .slice A2 (m ++ o.p).length c2, Z2⟩ : PX)).map pxS).flatten))) :: R) w48 := by
              rw [List.map_set]
              exact hA67.cast (by simp [pxS])
            exact ⟨qs.length, held, _, rfl, ⟨Nat.le_refl _, hnb⟩, hheld, ⟨qs.set i (⟨hb, m ++ o.p, Y1, .slice A2 (m ++ o.p).length c2, Z2⟩ : PX), _, _, XH, _, hlen, hqs2, hHs3, hTx3, rfl⟩, hfin⟩
      · refine vc_falseB hF rfl (eql_f (by omega)) ?_
        apply wp_seq_k; intro K39 hK39
        refine wp_region_lit ?_
        refine vc_y hF rfl rfl (by decide) _ (y_cmp rfl rfl rfl rfl rfl) (fun a hF => ?_)
        refine vc_y hF rfl rfl (by decide) _ (y_assign rfl rfl) (fun a hF => ?_)
        refine vc_nil ?_
        refine hK39 _ _ ?_; clear  hK39 K39
        by_cases k3 : o.kind = 3
        · refine vc_trueB hF rfl (eql_t (by omega)) ?_
          apply wp_seq_k; intro K40 hK40
          refine wp_region_plan 36 [7,15,25,33,36] [0,1,2,3,4,5,6,8,9,10,11,12,13,14,7,15,16,17,18,19,20,21,22,23,24,26,27,28,29,30,31,32,25,33,34,35,36] (fun x => Hq w0 ([row b1 26 [.int .i64 o.kind, .int .i64 o.h, .slice o.pA o.p.length o.pC]] :: [row rb 31 [.slice (some ⟨bH, pH, none⟩) qs.length cH, .slice (some ⟨gT, BT.length, none⟩) qs.length cT, .int .i64 ((held : Nat) : Int)]] :: XH :: [row gT 24 (BT ++ qs.map (·.tv) ++ ZT)] :: (qs.map pxS).flatten :: R) x) (by kernel_rfl) (by kernel_rfl) (Hq.drew (Hp.qp [[row b1 26 [.int .i64 o.kind, .int .i64 o.h, .slice o.pA o.p.length o.pC]], [row rb 31 [.slice (some ⟨bH, pH, none⟩) qs.length cH, .slice (some ⟨gT, BT.length, none⟩) qs.length cT, .int .i64 ((held : Nat) : Int)]], XH, [row gT 24 (BT ++ qs.map (·.tv) ++ ZT)], (qs.map pxS).flatten] R [0, 1, 2, 3, 4] hA31)) ?_
          have hA68 := Hl.drew hA31
          refine vp_y hF rfl rfl rfl rfl (by decide) _ (fun x hx => y_move rfl rfl) (fun a hF => ?_)
          refine vp_y hF rfl rfl rfl rfl (by decide) _ (fun x hx => y_nilCheck rfl rfl) (fun a hF => ?_)
          refine vp_y hF rfl rfl rfl rfl (by decide) _ (fun x hx => y_field rfl Tryd.underlying31 rfl sz28_pl (by decide) rfl (rfl : (⟨_, 0 + _, none⟩ : Addr) = ⟨_, 0, none⟩)) (fun a hF => ?_)
          refine vp_y hF rfl rfl rfl rfl (by decide) _ (fun x hx => y_ld rfl hx rfl 1 rfl rfl nr28_pl) (fun a hF => ?_)
          refine vp_y hF rfl rfl rfl rfl (by decide) _ (fun x hx => y_move rfl rfl) (fun a hF => ?_)
          refine vp_y hF rfl rfl rfl rfl (by decide) _ (fun x hx => y_ixSl rfl Tryd.underlying28 sz32_pl rfl rfl i rfl hiq (ad2 _ _ _)) (fun a hF => ?_)
          refine vp_y hF rfl rfl rfl rfl (by decide) _ (fun x hx => y_ldC (u := .pointer (some ⟨hb, 0, none⟩)) rfl (Hq.sub hx (sub1 (List.mem_cons_of_mem _ (List.mem_cons_of_mem _ ((List.mem_cons_self ..)))))) rfl hcH i hiH rfl hqP nr32_pl) (fun a hF => ?_)
          refine vp_y hF rfl rfl rfl rfl (by decide) _ (fun x hx => y_move rfl rfl) (fun a hF => ?_)
          refine vp_y hF rfl rfl rfl rfl (by decide) _ (fun x hx => y_nilCheck rfl rfl) (fun a hF => ?_)
          refine vp_y hF rfl rfl rfl rfl (by decide) _ (fun x hx => y_field rfl Tryd.underlying31 rfl sz29_pl (by decide) rfl (rfl : (⟨_, 0 + _, none⟩ : Addr) = ⟨_, 1, none⟩)) (fun a hF => ?_)
          refine vp_y hF rfl rfl rfl rfl (by decide) _ (fun x hx => y_ld rfl hx rfl 1 rfl rfl nr29_pl) (fun a hF => ?_)
          refine vp_y hF rfl rfl rfl rfl (by decide) _ (fun x hx => y_move rfl rfl) (fun a hF => ?_)
          refine vp_y hF rfl rfl rfl rfl (by decide) _ (fun x hx => y_ixSl rfl Tryd.underlying29 sz24_pl rfl rfl i rfl hiq (ad2 _ _ _)) (fun a hF => ?_)
          refine vp_y hF rfl rfl rfl rfl (by decide) _ (fun x hx => y_ldC (u := .slice Am m.length cm) rfl (Hq.sub hx (sub1 (List.mem_cons_of_mem _ (List.mem_cons_of_mem _ (List.mem_cons_of_mem _ ((List.mem_cons_self ..))))))) rfl hcT i hiT rfl hqT nr24_pl) (fun a hF => ?_)
          refine vp_l rfl rfl rfl (fun K hK => ws_call hF rfl (by decide) cl15_pl rfl rfl ?_)
          with_reducible refine (hc_sumF w0 _ _ hb m Yq hT hYq (px_in hYf (List.mem_cons_of_mem _ (List.mem_cons_of_mem _ (List.mem_cons_of_mem _ (List.mem_cons_of_mem _ ((List.mem_cons_self ..))))))) hA68 (by omega) ).mono ?_
          rintro e' w69 ⟨rfl, hA70⟩
          refine ⟨_, rfl, fun a hF => hK _ _ (fun _ => ?_) ?_⟩
          · exact Hp.qp [[row b1 26 [.int .i64 o.kind, .int .i64 o.h, .slice o.pA o.p.length o.pC]], [row rb 31 [.slice (some ⟨bH, pH, none⟩) qs.length cH, .slice (some ⟨gT, BT.length, none⟩) qs.length cT, .int .i64 ((held : Nat) : Int)]], XH, [row gT 24 (BT ++ qs.map (·.tv) ++ ZT)], (qs.map pxS).flatten] R [0, 1, 2, 3, 4] hA70
          clear hK K
          replace hA70 : Hp w0 ([row b1 26 [.int .i64 o.kind, .int .i64 o.h, .slice o.pA o.p.length o.pC]] :: [row rb 31 [.slice (some ⟨bH, pH, none⟩) qs.length cH, .slice (some ⟨gT, BT.length, none⟩) qs.length cT, .int .i64 ((held : Nat) : Int)]] :: XH :: [row gT 24 (BT ++ qs.map (·.tv) ++ ZT)] :: (qs.map pxS).flatten :: R) w69 := hA70
          refine vp_l rfl rfl rfl (fun K hK => ws_call hF rfl (by decide) cl19_pl rfl rfl ?_)
          with_reducible refine (hc_refsum w0 _ _ Am m cm (hRm.mono (sub1 (List.mem_cons_of_mem _ (List.mem_cons_of_mem _ (List.mem_cons_of_mem _ (List.mem_cons_of_mem _ ((List.mem_cons_self ..)))))))) hA70 (by omega) ).mono ?_
          rintro e' w71 ⟨rfl, hA72⟩
          refine ⟨_, rfl, fun a hF => hK _ _ (fun _ => ?_) ?_⟩
          · exact Hp.qp [[row b1 26 [.int .i64 o.kind, .int .i64 o.h, .slice o.pA o.p.length o.pC]], [row rb 31 [.slice (some ⟨bH, pH, none⟩) qs.length cH, .slice (some ⟨gT, BT.length, none⟩) qs.length cT, .int .i64 ((held : Nat) : Int)]], XH, [row gT 24 (BT ++ qs.map (·.tv) ++ ZT)], (qs.map pxS).flatten] R [0, 1, 2, 3, 4] hA72
          clear hK K
          replace hA72 : Hp w0 ([row b1 26 [.int .i64 o.kind, .int .i64 o.h, .slice o.pA o.p.length o.pC]] :: [row rb 31 [.slice (some ⟨bH, pH, none⟩) qs.length cH, .slice (some ⟨gT, BT.length, none⟩) qs.length cT, .int .i64 ((held : Nat) : Int)]] :: XH :: [row gT 24 (BT ++ qs.map (·.tv) ++ ZT)] :: (qs.map pxS).flatten :: R) w71 := hA72
          refine vp_y hF rfl rfl rfl rfl (by decide) _ (fun x hx => y_eqB rfl Tryd.underlying36 Tryd.underlying5 sz5_pl (by kernel_rfl) rfl rfl (sha_length _) (sha_length _) (decide_eq_true rfl)) (fun a hF => ?_)
          refine vp_y hF rfl rfl rfl rfl (by decide) _ (fun x hx => y_move rfl rfl) (fun a hF => ?_)
          refine vp_yg hF rfl rfl rfl rfl rfl rfl rfl (by decide) _ (fun x hx => y_move rfl rfl) (fun a hF => ?_)
          refine vp_yg hF rfl rfl rfl rfl rfl rfl rfl (by decide) _ (fun x hx => y_nilCheck rfl rfl) (fun a hF => ?_)
          refine vp_yg hF rfl rfl rfl rfl rfl rfl rfl (by decide) _ (fun x hx => y_field rfl Tryd.underlying31 rfl sz28_pl (by decide) rfl (rfl : (⟨_, 0 + _, none⟩ : Addr) = ⟨_, 0, none⟩)) (fun a hF => ?_)
          refine vp_yg hF rfl rfl rfl rfl rfl rfl rfl (by decide) _ (fun x hx => y_ld rfl hx rfl 1 rfl rfl nr28_pl) (fun a hF => ?_)
          refine vp_yg hF rfl rfl rfl rfl rfl rfl rfl (by decide) _ (fun x hx => y_move rfl rfl) (fun a hF => ?_)
          refine vp_yg hF rfl rfl rfl rfl rfl rfl rfl (by decide) _ (fun x hx => y_ixSl rfl Tryd.underlying28 sz32_pl rfl rfl i rfl hiq (ad2 _ _ _)) (fun a hF => ?_)
          refine vp_yg hF rfl rfl rfl rfl rfl rfl rfl (by decide) _ (fun x hx => y_ldC (u := .pointer (some ⟨hb, 0, none⟩)) rfl (Hq.sub hx (sub1 (List.mem_cons_of_mem _ (List.mem_cons_of_mem _ ((List.mem_cons_self ..)))))) rfl hcH i hiH rfl hqP nr32_pl) (fun a hF => ?_)
          refine vp_yg hF rfl rfl rfl rfl rfl rfl rfl (by decide) _ (fun x hx => y_move rfl rfl) (fun a hF => ?_)
          refine vp_yg hF rfl rfl rfl rfl rfl rfl rfl (by decide) _ (fun x hx => y_nilCheck rfl rfl) (fun a hF => ?_)
          refine vp_yg hF rfl rfl rfl rfl rfl rfl rfl (by decide) _ (fun x hx => y_field rfl Tryd.underlying31 rfl sz29_pl (by decide) rfl (rfl : (⟨_, 0 + _, none⟩ : Addr) = ⟨_, 1, none⟩)) (fun a hF => ?_)
          refine vp_yg hF rfl rfl rfl rfl rfl rfl rfl (by decide) _ (fun x hx => y_ld rfl hx rfl 1 rfl rfl nr29_pl) (fun a hF => ?_)
          refine vp_yg hF rfl rfl rfl rfl rfl rfl rfl (by decide) _ (fun x hx => y_move rfl rfl) (fun a hF => ?_)
          refine vp_yg hF rfl rfl rfl rfl rfl rfl rfl (by decide) _ (fun x hx => y_ixSl rfl Tryd.underlying29 sz24_pl rfl rfl i rfl hiq (ad2 _ _ _)) (fun a hF => ?_)
          refine vp_yg hF rfl rfl rfl rfl rfl rfl rfl (by decide) _ (fun x hx => y_ldC (u := .slice Am m.length cm) rfl (Hq.sub hx (sub1 (List.mem_cons_of_mem _ (List.mem_cons_of_mem _ (List.mem_cons_of_mem _ ((List.mem_cons_self ..))))))) rfl hcT i hiT rfl hqT nr24_pl) (fun a hF => ?_)
          refine vp_lg hF rfl rfl rfl rfl rfl rfl (fun K hK => ws_call hF rfl (by decide) cl15_pl rfl rfl ?_)
          with_reducible refine (hc_sumF w0 _ _ hb m Yq hT hYq (px_in hYf (List.mem_cons_of_mem _ (List.mem_cons_of_mem _ (List.mem_cons_of_mem _ (List.mem_cons_of_mem _ ((List.mem_cons_self ..))))))) hA72 (by omega) ).mono ?_
          rintro e' w73 ⟨rfl, hA74⟩
          refine ⟨_, rfl, fun a hF => hK _ _ (fun _ => ?_) ?_⟩
          · exact Hp.qp [[row b1 26 [.int .i64 o.kind, .int .i64 o.h, .slice o.pA o.p.length o.pC]], [row rb 31 [.slice (some ⟨bH, pH, none⟩) qs.length cH, .slice (some ⟨gT, BT.length, none⟩) qs.length cT, .int .i64 ((held : Nat) : Int)]], XH, [row gT 24 (BT ++ qs.map (·.tv) ++ ZT)], (qs.map pxS).flatten] R [0, 1, 2, 3, 4] hA74
          clear hK K
          replace hA74 : Hp w0 ([row b1 26 [.int .i64 o.kind, .int .i64 o.h, .slice o.pA o.p.length o.pC]] :: [row rb 31 [.slice (some ⟨bH, pH, none⟩) qs.length cH, .slice (some ⟨gT, BT.length, none⟩) qs.length cT, .int .i64 ((held : Nat) : Int)]] :: XH :: [row gT 24 (BT ++ qs.map (·.tv) ++ ZT)] :: (qs.map pxS).flatten :: R) w73 := hA74
          refine vp_lg hF rfl rfl rfl rfl rfl rfl (fun K hK => ws_call hF rfl (by decide) cl19_pl rfl rfl ?_)
          with_reducible refine (hc_refsum w0 _ _ Am m cm (hRm.mono (sub1 (List.mem_cons_of_mem _ (List.mem_cons_of_mem _ (List.mem_cons_of_mem _ (List.mem_cons_of_mem _ ((List.mem_cons_self ..)))))))) hA74 (by omega) ).mono ?_
          rintro e' w75 ⟨rfl, hA76⟩
          refine ⟨_, rfl, fun a hF => hK _ _ (fun _ => ?_) ?_⟩
          · exact Hp.qp [[row b1 26 [.int .i64 o.kind, .int .i64 o.h, .slice o.pA o.p.length o.pC]], [row rb 31 [.slice (some ⟨bH, pH, none⟩) qs.length cH, .slice (some ⟨gT, BT.length, none⟩) qs.length cT, .int .i64 ((held : Nat) : Int)]], XH, [row gT 24 (BT ++ qs.map (·.tv) ++ ZT)], (qs.map pxS).flatten] R [0, 1, 2, 3, 4] hA76
          clear hK K
          replace hA76 : Hp w0 ([row b1 26 [.int .i64 o.kind, .int .i64 o.h, .slice o.pA o.p.length o.pC]] :: [row rb 31 [.slice (some ⟨bH, pH, none⟩) qs.length cH, .slice (some ⟨gT, BT.length, none⟩) qs.length cT, .int .i64 ((held : Nat) : Int)]] :: XH :: [row gT 24 (BT ++ qs.map (·.tv) ++ ZT)] :: (qs.map pxS).flatten :: R) w75 := hA76
          refine vp_yg hF rfl rfl rfl rfl rfl rfl rfl (by decide) _ (fun x hx => y_eqB rfl Tryd.underlying36 Tryd.underlying5 sz5_pl (by kernel_rfl) rfl rfl (sha_length _) (sha_length _) (decide_eq_true rfl)) (fun a hF => ?_)
          refine vp_y hF rfl rfl rfl rfl (by decide) _ (fun x hx => y_pick rfl rfl rfl) (fun a hF => ?_)
          refine vp_ly hF rfl rfl rfl rfl (by decide) _ (y_assign rfl rfl) (fun h => absurd h (by decide)) (fun a hF => ?_)
          refine plan_end ?_
          refine hK40 _ _ ?_; clear  hK40 K40
          apply wp_ret
          simp only [Exit.then, Exit.inBlock]
          refine vc_ret1 hF Tryd.results18 rfl ?_
          have hA77 : Hp w0 ([row rb 31 [.slice (some ⟨bH, pH, none⟩) qs.length cH, .slice (some ⟨gT, BT.length, none⟩) qs.length cT, .int .i64 ((held : Nat) : Int)]] :: XH :: [row gT 24 (BT ++ qs.map (·.tv) ++ ZT)] :: (qs.map pxS).flatten :: R) w75 := Hp.sel [[row b1 26 [.int .i64 o.kind, .int .i64 o.h, .slice o.pA o.p.length o.pC]], [row rb 31 [.slice (some ⟨bH, pH, none⟩) qs.length cH, .slice (some ⟨gT, BT.length, none⟩) qs.length cT, .int .i64 ((held : Nat) : Int)]], XH, [row gT 24 (BT ++ qs.map (·.tv) ++ ZT)], (qs.map pxS).flatten] R [1, 2, 3, 4] [0] hA76 rfl
          exact ⟨qs.length, held, _, rfl, ⟨Nat.le_refl _, hnb⟩, hheld, ⟨qs, _, _, XH, _, rfl, fun q h => ⟨(hqs q h).1, Nat.le_trans (hqs q h).2 (by omega)⟩, hHs, hTx, rfl⟩, hA77.cast (by simp)⟩
        · refine vc_falseB hF rfl (eql_f (by omega)) ?_
          apply wp_seq_k; intro K41 hK41
          refine wp_region_lit ?_
          refine vc_y hF rfl rfl (by decide) _ (y_cmp rfl rfl rfl rfl rfl) (fun a hF => ?_)
          refine vc_y hF rfl rfl (by decide) _ (y_assign rfl rfl) (fun a hF => ?_)
          refine vc_nil ?_
          refine hK41 _ _ ?_; clear  hK41 K41
          refine vc_falseB hF rfl (eql_f (by omega)) ?_
          apply wp_skip
          refine hK20 _ _ ?_; clear  hK20 K20
          apply wp_seq_k; intro K42 hK42
          refine wp_region_lit ?_
          refine vc_y hF rfl rfl (by decide) _ (y_assign rfl rfl) (fun a hF => ?_)
          refine vc_nil ?_
          refine hK42 _ _ ?_; clear  hK42 K42
          apply wp_ret
          refine vc_ret1 hF Tryd.results18 rfl ?_
          have hA78 : Hp w0 ([row rb 31 [.slice (some ⟨bH, pH, none⟩) qs.length cH, .slice (some ⟨gT, BT.length, none⟩) qs.length cT, .int .i64 ((held : Nat) : Int)]] :: XH :: [row gT 24 (BT ++ qs.map (·.tv) ++ ZT)] :: (qs.map pxS).flatten :: R) w2.drew.drew := Hp.sel [[row b1 26 [.int .i64 o.kind, .int .i64 o.h, .slice o.pA o.p.length o.pC]], [row rb 31 [.slice (some ⟨bH, pH, none⟩) qs.length cH, .slice (some ⟨gT, BT.length, none⟩) qs.length cT, .int .i64 ((held : Nat) : Int)]], XH, [row gT 24 (BT ++ qs.map (·.tv) ++ ZT)], (qs.map pxS).flatten] R [1, 2, 3, 4] [0] hA31 rfl
          exact ⟨qs.length, held, _, rfl, ⟨Nat.le_refl _, hnb⟩, hheld, ⟨qs, _, _, XH, _, rfl, fun q h => ⟨(hqs q h).1, Nat.le_trans (hqs q h).2 (by omega)⟩, hHs, hTx, rfl⟩, hA78.cast (by simp)⟩
end Go.Proofs.YtppmhlkonemebaaDoor
