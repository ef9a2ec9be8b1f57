/- The statement about readers: told, opens, reads. -/
import Derived.Test.YthphfbohhbkdgaaRs
namespace Go.Proofs.Ythphfbohhbkdgaa
open Go.RowKit Go.Dk
theorem nr3_rx : notRow Try.prog 3 = true := by kernel_rfl
theorem nr5_rx : notRow Try.prog 5 = true := by kernel_rfl
theorem nr35_rx : notRow Try.prog 35 = true := by kernel_rfl
theorem nr53_rx : notRow Try.prog 53 = true := by kernel_rfl
theorem nr60_rx : notRow Try.prog 60 = true := by kernel_rfl
theorem nr69_rx : notRow Try.prog 69 = true := by kernel_rfl
theorem rw38_rx : isRow Try.prog 38 12 = true := by kernel_rfl
theorem sz3_rx : (Try.prog.info? 3).map (·.size) = some 1 := by kernel_rfl
theorem sz5_rx : (Try.prog.info? 5).map (·.size) = some 1 := by kernel_rfl
theorem sz35_rx : (Try.prog.info? 35).map (·.size) = some 1 := by kernel_rfl
theorem sz53_rx : (Try.prog.info? 53).map (·.size) = some 1 := by kernel_rfl
theorem sz60_rx : (Try.prog.info? 60).map (·.size) = some 1 := by kernel_rfl
theorem sz69_rx : (Try.prog.info? 69).map (·.size) = some 1 := by kernel_rfl
theorem cl26_rx : CallsTo Try.prog 26 := ⟨_, Try.func26, by kernel_rfl, by kernel_rfl⟩
theorem cl29_rx : CallsTo Try.prog 29 := ⟨_, Try.func29, by kernel_rfl, by kernel_rfl⟩
theorem cl30_rx : CallsTo Try.prog 30 := ⟨_, Try.func30, by kernel_rfl, by kernel_rfl⟩
theorem cl31_rx : CallsTo Try.prog 31 := ⟨_, Try.func31, by kernel_rfl, by kernel_rfl⟩
theorem cl32_rx : CallsTo Try.prog 32 := ⟨_, Try.func32, by kernel_rfl, by kernel_rfl⟩
theorem cl34_rx : CallsTo Try.prog 34 := ⟨_, Try.func34, by kernel_rfl, by kernel_rfl⟩
theorem cl43_rx : CallsTo Try.prog 43 := ⟨_, Try.func43, by kernel_rfl, by kernel_rfl⟩
theorem cl58_rx : CallsTo Try.prog 58 := ⟨_, Try.func58, by kernel_rfl, by kernel_rfl⟩
theorem cl59_rx : CallsTo Try.prog 59 := ⟨_, Try.func59, by kernel_rfl, by kernel_rfl⟩
theorem cl60_rx : CallsTo Try.prog 60 := ⟨_, Try.func60, by kernel_rfl, by kernel_rfl⟩
theorem cl61_rx : CallsTo Try.prog 61 := ⟨_, Try.func61, by kernel_rfl, by kernel_rfl⟩
theorem cl62_rx : CallsTo Try.prog 62 := ⟨_, Try.func62, by kernel_rfl, by kernel_rfl⟩


def withinI (n lo hi : Int) : Int := lo + n.emod (hi - lo + 1)
theorem within_key (n m : Int) (hm : 0 < m) : -m < n.tmod m ∧ n.tmod m < m ∧ n.emod m = if n.tmod m < 0 then n.tmod m + m else n.tmod m := by
  have h1 := Int.tmod_lt_of_pos n hm
  have h2 := Int.emod_nonneg n (show m ≠ 0 by omega)
  have h3 := Int.emod_lt_of_pos n hm
  have h4 := Int.mul_tdiv_add_tmod n m
  have h5 := Int.mul_ediv_add_emod n m
  have h6 : -m < n.tmod m := by
    have := Int.tmod_lt_of_pos (-n) hm
    rw [Int.neg_tmod] at this
    omega
  refine ⟨h6, h1, ?_⟩
  have h7 : m * (n / m - n.tdiv m) = n.tmod m - n.emod m := by
    rw [Int.mul_sub]
    have : n.emod m = n % m := rfl
    rw [this]
    omega
  have h8 : n.emod m = n % m := rfl
  split
  · have h9 : n / m - n.tdiv m = -1 := by
      have a1 : m * (n / m - n.tdiv m) < 0 := by omega
      have a2 : -(2 * m) < m * (n / m - n.tdiv m) := by omega
      have a3 : n / m - n.tdiv m < 0 := by
        rcases Int.lt_or_le (n / m - n.tdiv m) 0 with h | h
        · exact h
        · have := Int.mul_nonneg (Int.le_of_lt hm) h; omega
      have a4 : -2 < n / m - n.tdiv m := by
        rcases Int.lt_or_le (-2) (n / m - n.tdiv m) with h | h
        · exact h
        · have := Int.mul_le_mul_of_nonneg_left h (Int.le_of_lt hm); omega
      omega
    rw [h9] at h7
    omega
  · have h9 : n / m - n.tdiv m = 0 := by
      have a1 : -m < m * (n / m - n.tdiv m) := by omega
      have a2 : m * (n / m - n.tdiv m) < m := by omega
      have a3 : n / m - n.tdiv m < 1 := by
        rcases Int.lt_or_le (n / m - n.tdiv m) 1 with h | h
        · exact h
        · have := Int.mul_le_mul_of_nonneg_left h (Int.le_of_lt hm); omega
      have a4 : -1 < n / m - n.tdiv m := by
        rcases Int.lt_or_le (-1) (n / m - n.tdiv m) with h | h
        · exact h
        · have := Int.mul_le_mul_of_nonneg_left h (Int.le_of_lt hm); omega
      omega
    rw [h9] at h7
    omega
theorem within_le (n lo hi : Int) (h : lo ≤ hi) : lo ≤ withinI n lo hi ∧ withinI n lo hi ≤ hi := by
  have h2 := Int.emod_nonneg n (show hi - lo + 1 ≠ 0 by omega)
  have h3 := Int.emod_lt_of_pos n (show 0 < hi - lo + 1 by omega)
  unfold withinI
  have h4 : n.emod (hi - lo + 1) = n % (hi - lo + 1) := rfl
  omega

set_option maxRecDepth 100000 in
set_option maxHeartbeats 4000000 in
theorem bk_within (w : World) (n lo hi : Int) (h0 : 0 ≤ lo) (h1 : lo ≤ hi) (h2 : hi < 2305843009213693952) : Calls Try.prog 43 #[.int .i64 n, .int .i64 lo, .int .i64 hi] w fun e w' => e = .returned (.int .i64 (withinI n lo hi)) ∧ w = w' := by
  obtain ⟨k1, k2, k3⟩ := within_key n (hi - lo + 1) (by omega)
  have k4 : withinI n lo hi = lo + n.emod (hi - lo + 1) := rfl
  generalize hq : n.tmod (hi - lo + 1) = q at *
  refine vc_enter Try.func43 rfl Try.ntmps43 (Nat.le_of_ble_eq_true rfl) (fun a hF => ?_)
  apply wp_seq_k; intro K1 hK1
  refine wp_region_lit ?_
  refine vc_y hF rfl rfl (by decide) _ (y_assign rfl rfl) (fun a hF => ?_)
  refine vc_nil ?_
  refine hK1 _ _ ?_; clear  hK1 K1
  apply wp_seq_k; intro K2 hK2
  refine wp_region_lit ?_
  refine vc_y hF rfl rfl (by decide) _ (y_move rfl rfl) (fun a hF => ?_)
  refine vc_y hF rfl rfl (by decide) _ (y_move rfl rfl) (fun a hF => ?_)
  refine vc_y hF rfl rfl (by decide) _ (y_move rfl rfl) (fun a hF => ?_)
  refine vc_y hF rfl rfl (by decide) _ (y_sub rfl rfl rfl (IntWalk.i64_in _ (by omega))) (fun a hF => ?_)
  refine vc_y hF rfl rfl (by decide) _ (y_add rfl rfl rfl (IntWalk.i64_in _ (by omega))) (fun a hF => ?_)
  refine vc_y hF rfl rfl (by decide) _ (y_rem rfl rfl rfl (by omega) hq) (fun a hF => ?_)
  refine vc_y hF rfl rfl (by decide) _ (y_assign rfl rfl) (fun a hF => ?_)
  refine vc_nil ?_
  refine hK2 _ _ ?_; clear  hK2 K2
  apply wp_seq_k; intro K3 hK3
  apply wp_seq_k; intro K4 hK4
  refine wp_region_lit ?_
  refine vc_y hF rfl rfl (by decide) _ (y_move rfl rfl) (fun a hF => ?_)
  refine vc_y hF rfl rfl (by decide) _ (y_cmp rfl rfl rfl rfl rfl) (fun a hF => ?_)
  refine vc_nil ?_
  refine hK4 _ _ ?_; clear  hK4 K4
  by_cases hneg : q < 0
  · refine vc_trueB hF rfl (lss_t hneg) ?_
    refine wp_region_lit ?_
    refine vc_y hF rfl rfl (by decide) _ (y_move rfl rfl) (fun a hF => ?_)
    refine vc_y hF rfl rfl (by decide) _ (y_move rfl rfl) (fun a hF => ?_)
    refine vc_y hF rfl rfl (by decide) _ (y_add rfl rfl rfl (IntWalk.i64_in _ (by omega))) (fun a hF => ?_)
    refine vc_y hF rfl rfl (by decide) _ (y_move rfl rfl) (fun a hF => ?_)
    refine vc_y hF rfl rfl (by decide) _ (y_sub rfl rfl rfl (IntWalk.i64_in _ (by omega))) (fun a hF => ?_)
    refine vc_y hF rfl rfl (by decide) _ (y_add rfl rfl rfl (IntWalk.i64_in _ (by omega))) (fun a hF => ?_)
    refine vc_y hF rfl rfl (by decide) _ (y_assign rfl rfl) (fun a hF => ?_)
    refine vc_nil ?_
    refine hK3 _ _ ?_; clear  hK3 K3
    apply wp_seq_k; intro K5 hK5
    refine wp_region_lit ?_
    refine vc_y hF rfl rfl (by decide) _ (y_move rfl rfl) (fun a hF => ?_)
    refine vc_y hF rfl rfl (by decide) _ (y_move rfl rfl) (fun a hF => ?_)
    refine vc_y hF rfl rfl (by decide) _ (y_add rfl rfl rfl (show IntKind.i64.wrap _ = withinI n lo hi by rw [IntWalk.i64_in _ (by omega), k4, k3]; first | rw [if_pos hneg]; omega | rw [if_neg hneg])) (fun a hF => ?_)
    refine vc_y hF rfl rfl (by decide) _ (y_assign rfl rfl) (fun a hF => ?_)
    refine vc_nil ?_
    refine hK5 _ _ ?_; clear  hK5 K5
    apply wp_ret
    refine vc_ret1 hF Try.results43 rfl ?_
    exact ⟨rfl, rfl⟩
  · refine vc_falseB hF rfl (lss_f (by omega)) ?_
    apply wp_skip
    refine hK3 _ _ ?_; clear  hK3 K3
    apply wp_seq_k; intro K6 hK6
    refine wp_region_lit ?_
    refine vc_y hF rfl rfl (by decide) _ (y_move rfl rfl) (fun a hF => ?_)
    refine vc_y hF rfl rfl (by decide) _ (y_move rfl rfl) (fun a hF => ?_)
    refine vc_y hF rfl rfl (by decide) _ (y_add rfl rfl rfl (show IntKind.i64.wrap _ = withinI n lo hi by rw [IntWalk.i64_in _ (by omega), k4, k3]; first | rw [if_pos hneg]; omega | rw [if_neg hneg])) (fun a hF => ?_)
    refine vc_y hF rfl rfl (by decide) _ (y_assign rfl rfl) (fun a hF => ?_)
    refine vc_nil ?_
    refine hK6 _ _ ?_; clear  hK6 K6
    apply wp_ret
    refine vc_ret1 hF Try.results43 rfl ?_
    exact ⟨rfl, rfl⟩

/-- a reader and what the statement holds beside it: block of the read, of the reader, place, refusal, bytes, what is left -/
structure RX where
  xb : Nat
  rb : Nat
  p : Nat
  y : Nat
  A : Option Addr
  c : Nat
  X : Seg
  LA : Option Addr
  LC : Nat
def rxP (q : RX) : Value := .pointer (some ⟨q.xb, 0, none⟩)
def rxRead (l : List UInt8) (q : RX) : Dk.Item := row q.xb 106 [.pointer (some ⟨q.rb, 0, none⟩), .slice q.LA (l.length - q.p) q.LC, .int .i64 ((q.y : Nat) : Int)]
def rxRdr (l : List UInt8) (q : RX) : Dk.Item := row q.rb 95 [.slice q.A l.length q.c, .int .i64 ((q.p : Nat) : Int), .int .i64 ((q.y : Nat) : Int)]
def rxS (l : List UInt8) (q : RX) : Seg := rxRead l q :: rxRdr l q :: q.X
def RXok (w0 : World) (F : List Seg) (l : List UInt8) (q : RX) : Prop := Buf 5 1 q.X (.slice q.A l.length q.c) l.length (dc l) ∧ q.p ≤ l.length ∧ (l.length - q.p ≤ q.LC ∧ Rd w0 F q.LA (l.drop q.p))
/-- the shelf: n readers of the bytes l -/
def ShOK (w0 : World) (F : List Seg) (sb n : Nat) (bv : Value) (l : List UInt8) (Y : Seg) : Prop := ∃ (qs : List RX) (rv : Value) (XR YS : Seg), qs.length = n ∧ (∀ q ∈ qs, RXok w0 F l q) ∧ Buf 69 1 XR rv qs.length (qs.map rxP) ∧ ShB sb bv rv YS ∧ Y = YS ++ (XR ++ (qs.map (rxS l)).flatten)

set_option maxRecDepth 100000 in
set_option maxHeartbeats 4000000 in
theorem rx_told (w0 w : World) (R : List Seg) (xb rb : Nat) (A : Option Addr) (l : List UInt8) (c p y : Nat) (X : Seg) (LA : Option Addr) (LC : Nat) (hO : Buf 5 1 X (.slice A l.length c) l.length (dc l)) (hp : p ≤ l.length) (hl : l.length < 140737488354000) (hA : Hp w0 ([row xb 106 [.pointer (some ⟨rb, 0, none⟩), .slice LA (l.length - p) LC, .int .i64 (y : Int)]] :: [row rb 95 [.slice A l.length c, .int .i64 (p : Int), .int .i64 (y : Int)]] :: X :: R) w) : Calls Try.prog 34 #[.pointer (some ⟨xb, 0, none⟩)] w fun e w' => e = .returned (.bool true) ∧ Hp w0 ([row xb 106 [.pointer (some ⟨rb, 0, none⟩), .slice LA (l.length - p) LC, .int .i64 (y : Int)]] :: [row rb 95 [.slice A l.length c, .int .i64 (p : Int), .int .i64 (y : Int)]] :: X :: R) w' := by
  refine vc_enter Try.func34 rfl Try.ntmps34 (Nat.le_of_ble_eq_true rfl) (fun a hF => ?_)
  by_cases hy : y = 0
  · by_cases hp1 : p < l.length
    · have hdn : (((if y = 0 ∧ p < l.length then 8 else y : Nat)) : Int) = 8 := by rw [if_pos ⟨hy, hp1⟩]; rfl
      apply wp_seq_k; intro K1 hK1
      refine wp_region_lit ?_
      refine vc_y hF rfl rfl (by decide) _ (y_assign rfl rfl) (fun a hF => ?_)
      refine vc_nil ?_
      refine hK1 _ _ ?_; clear  hK1 K1
      apply wp_seq_k; intro K2 hK2
      refine wp_region_lit ?_
      refine vc_y hF rfl rfl (by decide) _ (y_move rfl rfl) (fun a hF => ?_)
      refine vc_y hF rfl rfl (by decide) _ (y_nilCheck rfl rfl) (fun a hF => ?_)
      refine vc_y hF rfl rfl (by decide) _ (y_field rfl Try.underlying106 rfl sz3_rx (by decide) rfl (rfl : (⟨_, 0 + _, none⟩ : Addr) = ⟨_, 2, none⟩)) (fun a hF => ?_)
      refine vc_y hF rfl rfl (by decide) _ (y_ld rfl hA.q rfl 0 rfl rfl nr3_rx) (fun a hF => ?_)
      refine vc_y hF rfl rfl (by decide) _ (y_assign rfl rfl) (fun a hF => ?_)
      refine vc_nil ?_
      refine hK2 _ _ ?_; clear  hK2 K2
      apply wp_seq_k; intro K3 hK3
      apply wp_seq_k; intro K4 hK4
      refine wp_region_lit ?_
      refine vc_y hF rfl rfl (by decide) _ (y_move rfl rfl) (fun a hF => ?_)
      refine vc_y hF rfl rfl (by decide) _ (y_cmp rfl rfl rfl rfl (eql_t (by omega))) (fun a hF => ?_)
      refine vc_y hF rfl rfl (by decide) _ (y_move rfl rfl) (fun a hF => ?_)
      refine vc_yg hF rfl rfl rfl rfl rfl (by decide) _ (y_move rfl rfl) (fun a hF => ?_)
      refine vc_yg hF rfl rfl rfl rfl rfl (by decide) _ (y_nilCheck rfl rfl) (fun a hF => ?_)
      refine vc_yg hF rfl rfl rfl rfl rfl (by decide) _ (y_field rfl Try.underlying106 rfl sz35_rx (by decide) rfl (rfl : (⟨_, 0 + _, none⟩ : Addr) = ⟨_, 1, none⟩)) (fun a hF => ?_)
      refine vc_yg hF rfl rfl rfl rfl rfl (by decide) _ (y_ld rfl hA.q rfl 0 rfl rfl nr35_rx) (fun a hF => ?_)
      refine vc_yg hF rfl rfl rfl rfl rfl (by decide) _ (y_lenSl rfl Try.underlying35 rfl rfl) (fun a hF => ?_)
      refine vc_yg hF rfl rfl rfl rfl rfl (by decide) _ (y_cmp rfl rfl rfl rfl (gtr_t (by omega))) (fun a hF => ?_)
      refine vc_y hF rfl rfl (by decide) _ (y_pick rfl rfl rfl) (fun a hF => ?_)
      refine vc_nil ?_
      refine hK4 _ _ ?_; clear  hK4 K4
      refine vc_true hF rfl ?_
      refine wp_region_lit ?_
      refine vc_y hF rfl rfl (by decide) _ (y_assign rfl rfl) (fun a hF => ?_)
      refine vc_nil ?_
      refine hK3 _ _ ?_; clear  hK3 K3
      apply wp_seq_k; intro K5 hK5
      refine wp_region_plan 32 [4,16,28,32] [0,1,2,3,5,6,7,8,9,4,10,11,12,13,14,15,17,18,19,20,16,21,22,23,24,25,26,27,29,28,30,31,32] (fun x => Hq w0 ([row xb 106 [.pointer (some ⟨rb, 0, none⟩), .slice LA (l.length - p) LC, .int .i64 (y : Int)]] :: [row rb 95 [.slice A l.length c, .int .i64 (p : Int), .int .i64 (y : Int)]] :: X :: R) x) (by kernel_rfl) (by kernel_rfl) (Hq.drew (Hp.qp [[row xb 106 [.pointer (some ⟨rb, 0, none⟩), .slice LA (l.length - p) LC, .int .i64 (y : Int)]], [row rb 95 [.slice A l.length c, .int .i64 (p : Int), .int .i64 (y : Int)]], X] R [0, 1, 2] hA)) ?_
      have hA1 := Hl.drew hA
      refine vp_y hF rfl rfl rfl rfl (by decide) _ (fun x hx => y_move rfl rfl) (fun a hF => ?_)
      refine vp_y hF rfl rfl rfl rfl (by decide) _ (fun x hx => y_nilCheck rfl rfl) (fun a hF => ?_)
      refine vp_y hF rfl rfl rfl rfl (by decide) _ (fun x hx => y_field rfl Try.underlying106 rfl sz53_rx (by decide) rfl (rfl : (⟨_, 0 + _, none⟩ : Addr) = ⟨_, 0, none⟩)) (fun a hF => ?_)
      refine vp_y hF rfl rfl rfl rfl (by decide) _ (fun x hx => y_ld rfl hx rfl 0 rfl rfl nr53_rx) (fun a hF => ?_)
      refine vp_y hF rfl rfl rfl rfl (by decide) _ (fun x hx => y_move rfl rfl) (fun a hF => ?_)
      refine vp_y hF rfl rfl rfl rfl (by decide) _ (fun x hx => y_nilCheck rfl rfl) (fun a hF => ?_)
      refine vp_y hF rfl rfl rfl rfl (by decide) _ (fun x hx => y_field rfl Try.underlying106 rfl sz35_rx (by decide) rfl (rfl : (⟨_, 0 + _, none⟩ : Addr) = ⟨_, 1, none⟩)) (fun a hF => ?_)
      refine vp_y hF rfl rfl rfl rfl (by decide) _ (fun x hx => y_ld rfl hx rfl 0 rfl rfl nr35_rx) (fun a hF => ?_)
      refine vp_y hF rfl rfl rfl rfl (by decide) _ (fun x hx => y_lenSl rfl Try.underlying35 rfl rfl) (fun a hF => ?_)
      have hA2 : Hp w0 ([row rb 95 [.slice A l.length c, .int .i64 (p : Int), .int .i64 (y : Int)]] :: X :: [row xb 106 [.pointer (some ⟨rb, 0, none⟩), .slice LA (l.length - p) LC, .int .i64 (y : Int)]] :: R) w.drew := Hp.ord [[row xb 106 [.pointer (some ⟨rb, 0, none⟩), .slice LA (l.length - p) LC, .int .i64 (y : Int)]], [row rb 95 [.slice A l.length c, .int .i64 (p : Int), .int .i64 (y : Int)]], X] R [1, 2, 0] hA1 rfl
      refine vp_l rfl rfl rfl (fun K hK => ws_call hF rfl (by decide) cl29_rx rfl rfl ?_)
      with_reducible refine (hr_left w0 _ _ rb A l c p y X hO hA2 hp hl ).mono ?_
      rintro e' w3 ⟨rfl, hA4⟩
      refine ⟨_, rfl, fun a hF => hK _ _ (fun _ => ?_) ?_⟩
      · exact Hp.qp [[row rb 95 [.slice A l.length c, .int .i64 (p : Int), .int .i64 (y : Int)]], X, [row xb 106 [.pointer (some ⟨rb, 0, none⟩), .slice LA (l.length - p) LC, .int .i64 (y : Int)]]] R [2, 0, 1] hA4
      clear hK K
      replace hA4 : Hp w0 ([row rb 95 [.slice A l.length c, .int .i64 (p : Int), .int .i64 (y : Int)]] :: X :: [row xb 106 [.pointer (some ⟨rb, 0, none⟩), .slice LA (l.length - p) LC, .int .i64 (y : Int)]] :: R) w3 := hA4
      refine vp_y hF rfl rfl rfl rfl (by decide) _ (fun x hx => y_cmp rfl rfl rfl rfl (eql_t rfl)) (fun a hF => ?_)
      refine vp_y hF rfl rfl rfl rfl (by decide) _ (fun x hx => y_move rfl rfl) (fun a hF => ?_)
      refine vp_yg hF rfl rfl rfl rfl rfl rfl rfl (by decide) _ (fun x hx => y_move rfl rfl) (fun a hF => ?_)
      refine vp_yg hF rfl rfl rfl rfl rfl rfl rfl (by decide) _ (fun x hx => y_nilCheck rfl rfl) (fun a hF => ?_)
      refine vp_yg hF rfl rfl rfl rfl rfl rfl rfl (by decide) _ (fun x hx => y_field rfl Try.underlying106 rfl sz53_rx (by decide) rfl (rfl : (⟨_, 0 + _, none⟩ : Addr) = ⟨_, 0, none⟩)) (fun a hF => ?_)
      refine vp_yg hF rfl rfl rfl rfl rfl rfl rfl (by decide) _ (fun x hx => y_ld rfl hx rfl 0 rfl rfl nr53_rx) (fun a hF => ?_)
      refine vp_yg hF rfl rfl rfl rfl rfl rfl rfl (by decide) _ (fun x hx => y_move rfl rfl) (fun a hF => ?_)
      refine vp_yg hF rfl rfl rfl rfl rfl rfl rfl (by decide) _ (fun x hx => y_nilCheck rfl rfl) (fun a hF => ?_)
      refine vp_yg hF rfl rfl rfl rfl rfl rfl rfl (by decide) _ (fun x hx => y_field rfl Try.underlying106 rfl sz3_rx (by decide) rfl (rfl : (⟨_, 0 + _, none⟩ : Addr) = ⟨_, 2, none⟩)) (fun a hF => ?_)
      refine vp_yg hF rfl rfl rfl rfl rfl rfl rfl (by decide) _ (fun x hx => y_ld rfl hx rfl 0 rfl rfl nr3_rx) (fun a hF => ?_)
      refine vp_lg hF rfl rfl rfl rfl rfl rfl (fun K hK => ws_call hF rfl (by decide) cl31_rx rfl rfl ?_)
      with_reducible refine (hr_why w0 _ _ rb A l c p y X hO hA4 ).mono ?_
      rintro e' w5 ⟨rfl, hA6⟩
      refine ⟨_, rfl, fun a hF => hK _ _ (fun _ => ?_) ?_⟩
      · exact Hp.qp [[row rb 95 [.slice A l.length c, .int .i64 (p : Int), .int .i64 (y : Int)]], X, [row xb 106 [.pointer (some ⟨rb, 0, none⟩), .slice LA (l.length - p) LC, .int .i64 (y : Int)]]] R [2, 0, 1] hA6
      clear hK K
      replace hA6 : Hp w0 ([row rb 95 [.slice A l.length c, .int .i64 (p : Int), .int .i64 (y : Int)]] :: X :: [row xb 106 [.pointer (some ⟨rb, 0, none⟩), .slice LA (l.length - p) LC, .int .i64 (y : Int)]] :: R) w5 := hA6
      refine vp_yg hF rfl rfl rfl rfl rfl rfl rfl (by decide) _ (fun x hx => y_cmp rfl rfl rfl rfl (eql_t rfl)) (fun a hF => ?_)
      refine vp_y hF rfl rfl rfl rfl (by decide) _ (fun x hx => y_pick rfl rfl rfl) (fun a hF => ?_)
      refine vp_y hF rfl rfl rfl rfl (by decide) _ (fun x hx => y_move rfl rfl) (fun a hF => ?_)
      refine vp_yg hF rfl rfl rfl rfl rfl rfl rfl (by decide) _ (fun x hx => y_move rfl rfl) (fun a hF => ?_)
      refine vp_yg hF rfl rfl rfl rfl rfl rfl rfl (by decide) _ (fun x hx => y_nilCheck rfl rfl) (fun a hF => ?_)
      refine vp_yg hF rfl rfl rfl rfl rfl rfl rfl (by decide) _ (fun x hx => y_field rfl Try.underlying106 rfl sz53_rx (by decide) rfl (rfl : (⟨_, 0 + _, none⟩ : Addr) = ⟨_, 0, none⟩)) (fun a hF => ?_)
      refine vp_yg hF rfl rfl rfl rfl rfl rfl rfl (by decide) _ (fun x hx => y_ld rfl hx rfl 0 rfl rfl nr53_rx) (fun a hF => ?_)
      refine vp_yg hF rfl rfl rfl rfl rfl rfl rfl (by decide) _ (fun x hx => y_move rfl rfl) (fun a hF => ?_)
      refine vp_lg hF rfl rfl rfl rfl rfl rfl (fun K hK => ws_call hF rfl (by decide) cl30_rx rfl rfl ?_)
      with_reducible refine (hr_done w0 _ _ rb A l c p y X hO hA6 hp hl ).mono ?_
      rintro e' w7 ⟨rfl, hA8⟩
      refine ⟨_, rfl, fun a hF => hK _ _ (fun _ => ?_) ?_⟩
      · exact Hp.qp [[row rb 95 [.slice A l.length c, .int .i64 (p : Int), .int .i64 (y : Int)]], X, [row xb 106 [.pointer (some ⟨rb, 0, none⟩), .slice LA (l.length - p) LC, .int .i64 (y : Int)]]] R [2, 0, 1] hA8
      clear hK K
      replace hA8 : Hp w0 ([row rb 95 [.slice A l.length c, .int .i64 (p : Int), .int .i64 (y : Int)]] :: X :: [row xb 106 [.pointer (some ⟨rb, 0, none⟩), .slice LA (l.length - p) LC, .int .i64 (y : Int)]] :: R) w7 := hA8
      rw [hdn] at hF
      refine vp_yg hF rfl rfl rfl rfl rfl rfl rfl (by decide) _ (fun x hx => y_cmp rfl rfl rfl rfl (eql_t rfl)) (fun a hF => ?_)
      refine vp_y hF rfl rfl rfl rfl (by decide) _ (fun x hx => y_pick rfl rfl rfl) (fun a hF => ?_)
      refine vp_ly hF rfl rfl rfl rfl (by decide) _ (y_assign rfl rfl) (fun h => absurd h (by decide)) (fun a hF => ?_)
      refine plan_end ?_
      refine hK5 _ _ ?_; clear  hK5 K5
      apply wp_seq_k; intro K6 hK6
      refine wp_region_plan 35 [6,19,31,35] [0,1,2,3,4,5,7,8,9,10,11,6,12,13,14,15,16,17,18,20,21,22,23,19,24,25,26,27,28,29,30,32,31,33,34,35] (fun x => Hq w0 ([row rb 95 [.slice A l.length c, .int .i64 (p : Int), .int .i64 (y : Int)]] :: X :: [row xb 106 [.pointer (some ⟨rb, 0, none⟩), .slice LA (l.length - p) LC, .int .i64 (y : Int)]] :: R) x) (by kernel_rfl) (by kernel_rfl) (Hq.drew (Hp.qp [[row rb 95 [.slice A l.length c, .int .i64 (p : Int), .int .i64 (y : Int)]], X, [row xb 106 [.pointer (some ⟨rb, 0, none⟩), .slice LA (l.length - p) LC, .int .i64 (y : Int)]]] R [0, 1, 2] hA8)) ?_
      have hA9 := Hl.drew hA8
      refine vp_y hF rfl rfl rfl rfl (by decide) _ (fun x hx => y_move rfl rfl) (fun a hF => ?_)
      refine vp_y hF rfl rfl rfl rfl (by decide) _ (fun x hx => y_move rfl rfl) (fun a hF => ?_)
      refine vp_yg hF rfl rfl rfl rfl rfl rfl rfl (by decide) _ (fun x hx => y_move rfl rfl) (fun a hF => ?_)
      refine vp_yg hF rfl rfl rfl rfl rfl rfl rfl (by decide) _ (fun x hx => y_nilCheck rfl rfl) (fun a hF => ?_)
      refine vp_yg hF rfl rfl rfl rfl rfl rfl rfl (by decide) _ (fun x hx => y_field rfl Try.underlying106 rfl sz53_rx (by decide) rfl (rfl : (⟨_, 0 + _, none⟩ : Addr) = ⟨_, 0, none⟩)) (fun a hF => ?_)
      refine vp_yg hF rfl rfl rfl rfl rfl rfl rfl (by decide) _ (fun x hx => y_ld rfl hx rfl 2 rfl rfl nr53_rx) (fun a hF => ?_)
      refine vp_yg hF rfl rfl rfl rfl rfl rfl rfl (by decide) _ (fun x hx => y_move rfl rfl) (fun a hF => ?_)
      refine vp_yg hF rfl rfl rfl rfl rfl rfl rfl (by decide) _ (fun x hx => y_nilCheck rfl rfl) (fun a hF => ?_)
      refine vp_yg hF rfl rfl rfl rfl rfl rfl rfl (by decide) _ (fun x hx => y_field rfl Try.underlying106 rfl sz35_rx (by decide) rfl (rfl : (⟨_, 0 + _, none⟩ : Addr) = ⟨_, 1, none⟩)) (fun a hF => ?_)
      refine vp_yg hF rfl rfl rfl rfl rfl rfl rfl (by decide) _ (fun x hx => y_ld rfl hx rfl 2 rfl rfl nr35_rx) (fun a hF => ?_)
      refine vp_yg hF rfl rfl rfl rfl rfl rfl rfl (by decide) _ (fun x hx => y_lenSl rfl Try.underlying35 rfl rfl) (fun a hF => ?_)
      refine vp_lg hF rfl rfl rfl rfl rfl rfl (fun K hK => ws_call hF rfl (by decide) cl29_rx rfl rfl ?_)
      with_reducible refine (hr_left w0 _ _ rb A l c p y X hO hA9 hp hl ).mono ?_
      rintro e' w10 ⟨rfl, hA11⟩
      refine ⟨_, rfl, fun a hF => hK _ _ (fun _ => ?_) ?_⟩
      · exact Hp.qp [[row rb 95 [.slice A l.length c, .int .i64 (p : Int), .int .i64 (y : Int)]], X, [row xb 106 [.pointer (some ⟨rb, 0, none⟩), .slice LA (l.length - p) LC, .int .i64 (y : Int)]]] R [0, 1, 2] hA11
      clear hK K
      replace hA11 : Hp w0 ([row rb 95 [.slice A l.length c, .int .i64 (p : Int), .int .i64 (y : Int)]] :: X :: [row xb 106 [.pointer (some ⟨rb, 0, none⟩), .slice LA (l.length - p) LC, .int .i64 (y : Int)]] :: R) w10 := hA11
      refine vp_yg hF rfl rfl rfl rfl rfl rfl rfl (by decide) _ (fun x hx => y_cmp rfl rfl rfl rfl (eql_t rfl)) (fun a hF => ?_)
      refine vp_y hF rfl rfl rfl rfl (by decide) _ (fun x hx => y_pick rfl rfl rfl) (fun a hF => ?_)
      refine vp_y hF rfl rfl rfl rfl (by decide) _ (fun x hx => y_move rfl rfl) (fun a hF => ?_)
      refine vp_yg hF rfl rfl rfl rfl rfl rfl rfl (by decide) _ (fun x hx => y_move rfl rfl) (fun a hF => ?_)
      refine vp_yg hF rfl rfl rfl rfl rfl rfl rfl (by decide) _ (fun x hx => y_nilCheck rfl rfl) (fun a hF => ?_)
      refine vp_yg hF rfl rfl rfl rfl rfl rfl rfl (by decide) _ (fun x hx => y_field rfl Try.underlying106 rfl sz53_rx (by decide) rfl (rfl : (⟨_, 0 + _, none⟩ : Addr) = ⟨_, 0, none⟩)) (fun a hF => ?_)
      refine vp_yg hF rfl rfl rfl rfl rfl rfl rfl (by decide) _ (fun x hx => y_ld rfl hx rfl 2 rfl rfl nr53_rx) (fun a hF => ?_)
      refine vp_yg hF rfl rfl rfl rfl rfl rfl rfl (by decide) _ (fun x hx => y_move rfl rfl) (fun a hF => ?_)
      refine vp_yg hF rfl rfl rfl rfl rfl rfl rfl (by decide) _ (fun x hx => y_nilCheck rfl rfl) (fun a hF => ?_)
      refine vp_yg hF rfl rfl rfl rfl rfl rfl rfl (by decide) _ (fun x hx => y_field rfl Try.underlying106 rfl sz3_rx (by decide) rfl (rfl : (⟨_, 0 + _, none⟩ : Addr) = ⟨_, 2, none⟩)) (fun a hF => ?_)
      refine vp_yg hF rfl rfl rfl rfl rfl rfl rfl (by decide) _ (fun x hx => y_ld rfl hx rfl 2 rfl rfl nr3_rx) (fun a hF => ?_)
      refine vp_lg hF rfl rfl rfl rfl rfl rfl (fun K hK => ws_call hF rfl (by decide) cl31_rx rfl rfl ?_)
      with_reducible refine (hr_why w0 _ _ rb A l c p y X hO hA11 ).mono ?_
      rintro e' w12 ⟨rfl, hA13⟩
      refine ⟨_, rfl, fun a hF => hK _ _ (fun _ => ?_) ?_⟩
      · exact Hp.qp [[row rb 95 [.slice A l.length c, .int .i64 (p : Int), .int .i64 (y : Int)]], X, [row xb 106 [.pointer (some ⟨rb, 0, none⟩), .slice LA (l.length - p) LC, .int .i64 (y : Int)]]] R [0, 1, 2] hA13
      clear hK K
      replace hA13 : Hp w0 ([row rb 95 [.slice A l.length c, .int .i64 (p : Int), .int .i64 (y : Int)]] :: X :: [row xb 106 [.pointer (some ⟨rb, 0, none⟩), .slice LA (l.length - p) LC, .int .i64 (y : Int)]] :: R) w12 := hA13
      refine vp_yg hF rfl rfl rfl rfl rfl rfl rfl (by decide) _ (fun x hx => y_cmp rfl rfl rfl rfl (eql_t rfl)) (fun a hF => ?_)
      refine vp_y hF rfl rfl rfl rfl (by decide) _ (fun x hx => y_pick rfl rfl rfl) (fun a hF => ?_)
      refine vp_y hF rfl rfl rfl rfl (by decide) _ (fun x hx => y_move rfl rfl) (fun a hF => ?_)
      refine vp_yg hF rfl rfl rfl rfl rfl rfl rfl (by decide) _ (fun x hx => y_move rfl rfl) (fun a hF => ?_)
      refine vp_yg hF rfl rfl rfl rfl rfl rfl rfl (by decide) _ (fun x hx => y_nilCheck rfl rfl) (fun a hF => ?_)
      refine vp_yg hF rfl rfl rfl rfl rfl rfl rfl (by decide) _ (fun x hx => y_field rfl Try.underlying106 rfl sz53_rx (by decide) rfl (rfl : (⟨_, 0 + _, none⟩ : Addr) = ⟨_, 0, none⟩)) (fun a hF => ?_)
      refine vp_yg hF rfl rfl rfl rfl rfl rfl rfl (by decide) _ (fun x hx => y_ld rfl hx rfl 2 rfl rfl nr53_rx) (fun a hF => ?_)
      refine vp_yg hF rfl rfl rfl rfl rfl rfl rfl (by decide) _ (fun x hx => y_move rfl rfl) (fun a hF => ?_)
      refine vp_lg hF rfl rfl rfl rfl rfl rfl (fun K hK => ws_call hF rfl (by decide) cl30_rx rfl rfl ?_)
      with_reducible refine (hr_done w0 _ _ rb A l c p y X hO hA13 hp hl ).mono ?_
      rintro e' w14 ⟨rfl, hA15⟩
      refine ⟨_, rfl, fun a hF => hK _ _ (fun _ => ?_) ?_⟩
      · exact Hp.qp [[row rb 95 [.slice A l.length c, .int .i64 (p : Int), .int .i64 (y : Int)]], X, [row xb 106 [.pointer (some ⟨rb, 0, none⟩), .slice LA (l.length - p) LC, .int .i64 (y : Int)]]] R [0, 1, 2] hA15
      clear hK K
      replace hA15 : Hp w0 ([row rb 95 [.slice A l.length c, .int .i64 (p : Int), .int .i64 (y : Int)]] :: X :: [row xb 106 [.pointer (some ⟨rb, 0, none⟩), .slice LA (l.length - p) LC, .int .i64 (y : Int)]] :: R) w14 := hA15
      rw [hdn] at hF
      refine vp_yg hF rfl rfl rfl rfl rfl rfl rfl (by decide) _ (fun x hx => y_cmp rfl rfl rfl rfl (eql_t rfl)) (fun a hF => ?_)
      refine vp_y hF rfl rfl rfl rfl (by decide) _ (fun x hx => y_pick rfl rfl rfl) (fun a hF => ?_)
      refine vp_ly hF rfl rfl rfl rfl (by decide) _ (y_assign rfl rfl) (fun h => absurd h (by decide)) (fun a hF => ?_)
      refine plan_end ?_
      refine hK6 _ _ ?_; clear  hK6 K6
      apply wp_ret
      refine vc_ret1 hF Try.results34 rfl ?_
      have hA16 : Hp w0 ([row xb 106 [.pointer (some ⟨rb, 0, none⟩), .slice LA (l.length - p) LC, .int .i64 (y : Int)]] :: [row rb 95 [.slice A l.length c, .int .i64 (p : Int), .int .i64 (y : Int)]] :: X :: R) w14 := Hp.ord [[row rb 95 [.slice A l.length c, .int .i64 (p : Int), .int .i64 (y : Int)]], X, [row xb 106 [.pointer (some ⟨rb, 0, none⟩), .slice LA (l.length - p) LC, .int .i64 (y : Int)]]] R [2, 0, 1] hA15 rfl
      exact ⟨rfl, hA16⟩
    · have hdn : (((if y = 0 ∧ p < l.length then 8 else y : Nat)) : Int) = (y : Int) := by rw [if_neg (fun h => hp1 h.2)]
      apply wp_seq_k; intro K7 hK7
      refine wp_region_lit ?_
      refine vc_y hF rfl rfl (by decide) _ (y_assign rfl rfl) (fun a hF => ?_)
      refine vc_nil ?_
      refine hK7 _ _ ?_; clear  hK7 K7
      apply wp_seq_k; intro K8 hK8
      refine wp_region_lit ?_
      refine vc_y hF rfl rfl (by decide) _ (y_move rfl rfl) (fun a hF => ?_)
      refine vc_y hF rfl rfl (by decide) _ (y_nilCheck rfl rfl) (fun a hF => ?_)
      refine vc_y hF rfl rfl (by decide) _ (y_field rfl Try.underlying106 rfl sz3_rx (by decide) rfl (rfl : (⟨_, 0 + _, none⟩ : Addr) = ⟨_, 2, none⟩)) (fun a hF => ?_)
      refine vc_y hF rfl rfl (by decide) _ (y_ld rfl hA.q rfl 0 rfl rfl nr3_rx) (fun a hF => ?_)
      refine vc_y hF rfl rfl (by decide) _ (y_assign rfl rfl) (fun a hF => ?_)
      refine vc_nil ?_
      refine hK8 _ _ ?_; clear  hK8 K8
      apply wp_seq_k; intro K9 hK9
      apply wp_seq_k; intro K10 hK10
      refine wp_region_lit ?_
      refine vc_y hF rfl rfl (by decide) _ (y_move rfl rfl) (fun a hF => ?_)
      refine vc_y hF rfl rfl (by decide) _ (y_cmp rfl rfl rfl rfl (eql_t (by omega))) (fun a hF => ?_)
      refine vc_y hF rfl rfl (by decide) _ (y_move rfl rfl) (fun a hF => ?_)
      refine vc_yg hF rfl rfl rfl rfl rfl (by decide) _ (y_move rfl rfl) (fun a hF => ?_)
      refine vc_yg hF rfl rfl rfl rfl rfl (by decide) _ (y_nilCheck rfl rfl) (fun a hF => ?_)
      refine vc_yg hF rfl rfl rfl rfl rfl (by decide) _ (y_field rfl Try.underlying106 rfl sz35_rx (by decide) rfl (rfl : (⟨_, 0 + _, none⟩ : Addr) = ⟨_, 1, none⟩)) (fun a hF => ?_)
      refine vc_yg hF rfl rfl rfl rfl rfl (by decide) _ (y_ld rfl hA.q rfl 0 rfl rfl nr35_rx) (fun a hF => ?_)
      refine vc_yg hF rfl rfl rfl rfl rfl (by decide) _ (y_lenSl rfl Try.underlying35 rfl rfl) (fun a hF => ?_)
      refine vc_yg hF rfl rfl rfl rfl rfl (by decide) _ (y_cmp rfl rfl rfl rfl (gtr_f (by omega))) (fun a hF => ?_)
      refine vc_y hF rfl rfl (by decide) _ (y_pick rfl rfl rfl) (fun a hF => ?_)
      refine vc_nil ?_
      refine hK10 _ _ ?_; clear  hK10 K10
      refine vc_false hF rfl ?_
      apply wp_skip
      refine hK9 _ _ ?_; clear  hK9 K9
      apply wp_seq_k; intro K11 hK11
      refine wp_region_plan 32 [4,16,28,32] [0,1,2,3,5,6,7,8,9,4,10,11,12,13,14,15,17,18,19,20,16,21,22,23,24,25,26,27,29,28,30,31,32] (fun x => Hq w0 ([row xb 106 [.pointer (some ⟨rb, 0, none⟩), .slice LA (l.length - p) LC, .int .i64 (y : Int)]] :: [row rb 95 [.slice A l.length c, .int .i64 (p : Int), .int .i64 (y : Int)]] :: X :: R) x) (by kernel_rfl) (by kernel_rfl) (Hq.drew (Hp.qp [[row xb 106 [.pointer (some ⟨rb, 0, none⟩), .slice LA (l.length - p) LC, .int .i64 (y : Int)]], [row rb 95 [.slice A l.length c, .int .i64 (p : Int), .int .i64 (y : Int)]], X] R [0, 1, 2] hA)) ?_
      have hA17 := Hl.drew hA
      refine vp_y hF rfl rfl rfl rfl (by decide) _ (fun x hx => y_move rfl rfl) (fun a hF => ?_)
      refine vp_y hF rfl rfl rfl rfl (by decide) _ (fun x hx => y_nilCheck rfl rfl) (fun a hF => ?_)
      refine vp_y hF rfl rfl rfl rfl (by decide) _ (fun x hx => y_field rfl Try.underlying106 rfl sz53_rx (by decide) rfl (rfl : (⟨_, 0 + _, none⟩ : Addr) = ⟨_, 0, none⟩)) (fun a hF => ?_)
      refine vp_y hF rfl rfl rfl rfl (by decide) _ (fun x hx => y_ld rfl hx rfl 0 rfl rfl nr53_rx) (fun a hF => ?_)
      refine vp_y hF rfl rfl rfl rfl (by decide) _ (fun x hx => y_move rfl rfl) (fun a hF => ?_)
      refine vp_y hF rfl rfl rfl rfl (by decide) _ (fun x hx => y_nilCheck rfl rfl) (fun a hF => ?_)
      refine vp_y hF rfl rfl rfl rfl (by decide) _ (fun x hx => y_field rfl Try.underlying106 rfl sz35_rx (by decide) rfl (rfl : (⟨_, 0 + _, none⟩ : Addr) = ⟨_, 1, none⟩)) (fun a hF => ?_)
      refine vp_y hF rfl rfl rfl rfl (by decide) _ (fun x hx => y_ld rfl hx rfl 0 rfl rfl nr35_rx) (fun a hF => ?_)
      refine vp_y hF rfl rfl rfl rfl (by decide) _ (fun x hx => y_lenSl rfl Try.underlying35 rfl rfl) (fun a hF => ?_)
      have hA18 : Hp w0 ([row rb 95 [.slice A l.length c, .int .i64 (p : Int), .int .i64 (y : Int)]] :: X :: [row xb 106 [.pointer (some ⟨rb, 0, none⟩), .slice LA (l.length - p) LC, .int .i64 (y : Int)]] :: R) w.drew := Hp.ord [[row xb 106 [.pointer (some ⟨rb, 0, none⟩), .slice LA (l.length - p) LC, .int .i64 (y : Int)]], [row rb 95 [.slice A l.length c, .int .i64 (p : Int), .int .i64 (y : Int)]], X] R [1, 2, 0] hA17 rfl
      refine vp_l rfl rfl rfl (fun K hK => ws_call hF rfl (by decide) cl29_rx rfl rfl ?_)
      with_reducible refine (hr_left w0 _ _ rb A l c p y X hO hA18 hp hl ).mono ?_
      rintro e' w19 ⟨rfl, hA20⟩
      refine ⟨_, rfl, fun a hF => hK _ _ (fun _ => ?_) ?_⟩
      · exact Hp.qp [[row rb 95 [.slice A l.length c, .int .i64 (p : Int), .int .i64 (y : Int)]], X, [row xb 106 [.pointer (some ⟨rb, 0, none⟩), .slice LA (l.length - p) LC, .int .i64 (y : Int)]]] R [2, 0, 1] hA20
      clear hK K
      replace hA20 : Hp w0 ([row rb 95 [.slice A l.length c, .int .i64 (p : Int), .int .i64 (y : Int)]] :: X :: [row xb 106 [.pointer (some ⟨rb, 0, none⟩), .slice LA (l.length - p) LC, .int .i64 (y : Int)]] :: R) w19 := hA20
      refine vp_y hF rfl rfl rfl rfl (by decide) _ (fun x hx => y_cmp rfl rfl rfl rfl (eql_t rfl)) (fun a hF => ?_)
      refine vp_y hF rfl rfl rfl rfl (by decide) _ (fun x hx => y_move rfl rfl) (fun a hF => ?_)
      refine vp_yg hF rfl rfl rfl rfl rfl rfl rfl (by decide) _ (fun x hx => y_move rfl rfl) (fun a hF => ?_)
      refine vp_yg hF rfl rfl rfl rfl rfl rfl rfl (by decide) _ (fun x hx => y_nilCheck rfl rfl) (fun a hF => ?_)
      refine vp_yg hF rfl rfl rfl rfl rfl rfl rfl (by decide) _ (fun x hx => y_field rfl Try.underlying106 rfl sz53_rx (by decide) rfl (rfl : (⟨_, 0 + _, none⟩ : Addr) = ⟨_, 0, none⟩)) (fun a hF => ?_)
      refine vp_yg hF rfl rfl rfl rfl rfl rfl rfl (by decide) _ (fun x hx => y_ld rfl hx rfl 0 rfl rfl nr53_rx) (fun a hF => ?_)
      refine vp_yg hF rfl rfl rfl rfl rfl rfl rfl (by decide) _ (fun x hx => y_move rfl rfl) (fun a hF => ?_)
      refine vp_yg hF rfl rfl rfl rfl rfl rfl rfl (by decide) _ (fun x hx => y_nilCheck rfl rfl) (fun a hF => ?_)
      refine vp_yg hF rfl rfl rfl rfl rfl rfl rfl (by decide) _ (fun x hx => y_field rfl Try.underlying106 rfl sz3_rx (by decide) rfl (rfl : (⟨_, 0 + _, none⟩ : Addr) = ⟨_, 2, none⟩)) (fun a hF => ?_)
      refine vp_yg hF rfl rfl rfl rfl rfl rfl rfl (by decide) _ (fun x hx => y_ld rfl hx rfl 0 rfl rfl nr3_rx) (fun a hF => ?_)
      refine vp_lg hF rfl rfl rfl rfl rfl rfl (fun K hK => ws_call hF rfl (by decide) cl31_rx rfl rfl ?_)
      with_reducible refine (hr_why w0 _ _ rb A l c p y X hO hA20 ).mono ?_
      rintro e' w21 ⟨rfl, hA22⟩
      refine ⟨_, rfl, fun a hF => hK _ _ (fun _ => ?_) ?_⟩
      · exact Hp.qp [[row rb 95 [.slice A l.length c, .int .i64 (p : Int), .int .i64 (y : Int)]], X, [row xb 106 [.pointer (some ⟨rb, 0, none⟩), .slice LA (l.length - p) LC, .int .i64 (y : Int)]]] R [2, 0, 1] hA22
      clear hK K
      replace hA22 : Hp w0 ([row rb 95 [.slice A l.length c, .int .i64 (p : Int), .int .i64 (y : Int)]] :: X :: [row xb 106 [.pointer (some ⟨rb, 0, none⟩), .slice LA (l.length - p) LC, .int .i64 (y : Int)]] :: R) w21 := hA22
      refine vp_yg hF rfl rfl rfl rfl rfl rfl rfl (by decide) _ (fun x hx => y_cmp rfl rfl rfl rfl (eql_t rfl)) (fun a hF => ?_)
      refine vp_y hF rfl rfl rfl rfl (by decide) _ (fun x hx => y_pick rfl rfl rfl) (fun a hF => ?_)
      refine vp_y hF rfl rfl rfl rfl (by decide) _ (fun x hx => y_move rfl rfl) (fun a hF => ?_)
      refine vp_yg hF rfl rfl rfl rfl rfl rfl rfl (by decide) _ (fun x hx => y_move rfl rfl) (fun a hF => ?_)
      refine vp_yg hF rfl rfl rfl rfl rfl rfl rfl (by decide) _ (fun x hx => y_nilCheck rfl rfl) (fun a hF => ?_)
      refine vp_yg hF rfl rfl rfl rfl rfl rfl rfl (by decide) _ (fun x hx => y_field rfl Try.underlying106 rfl sz53_rx (by decide) rfl (rfl : (⟨_, 0 + _, none⟩ : Addr) = ⟨_, 0, none⟩)) (fun a hF => ?_)
      refine vp_yg hF rfl rfl rfl rfl rfl rfl rfl (by decide) _ (fun x hx => y_ld rfl hx rfl 0 rfl rfl nr53_rx) (fun a hF => ?_)
      refine vp_yg hF rfl rfl rfl rfl rfl rfl rfl (by decide) _ (fun x hx => y_move rfl rfl) (fun a hF => ?_)
      refine vp_lg hF rfl rfl rfl rfl rfl rfl (fun K hK => ws_call hF rfl (by decide) cl30_rx rfl rfl ?_)
      with_reducible refine (hr_done w0 _ _ rb A l c p y X hO hA22 hp hl ).mono ?_
      rintro e' w23 ⟨rfl, hA24⟩
      refine ⟨_, rfl, fun a hF => hK _ _ (fun _ => ?_) ?_⟩
      · exact Hp.qp [[row rb 95 [.slice A l.length c, .int .i64 (p : Int), .int .i64 (y : Int)]], X, [row xb 106 [.pointer (some ⟨rb, 0, none⟩), .slice LA (l.length - p) LC, .int .i64 (y : Int)]]] R [2, 0, 1] hA24
      clear hK K
      replace hA24 : Hp w0 ([row rb 95 [.slice A l.length c, .int .i64 (p : Int), .int .i64 (y : Int)]] :: X :: [row xb 106 [.pointer (some ⟨rb, 0, none⟩), .slice LA (l.length - p) LC, .int .i64 (y : Int)]] :: R) w23 := hA24
      rw [hdn] at hF
      refine vp_yg hF rfl rfl rfl rfl rfl rfl rfl (by decide) _ (fun x hx => y_cmp rfl rfl rfl rfl (eql_t rfl)) (fun a hF => ?_)
      refine vp_y hF rfl rfl rfl rfl (by decide) _ (fun x hx => y_pick rfl rfl rfl) (fun a hF => ?_)
      refine vp_ly hF rfl rfl rfl rfl (by decide) _ (y_assign rfl rfl) (fun h => absurd h (by decide)) (fun a hF => ?_)
      refine plan_end ?_
      refine hK11 _ _ ?_; clear  hK11 K11
      apply wp_seq_k; intro K12 hK12
      refine wp_region_plan 35 [6,19,31,35] [0,1,2,3,4,5,7,8,9,10,11,6,12,13,14,15,16,17,18,20,21,22,23,19,24,25,26,27,28,29,30,32,31,33,34,35] (fun x => Hq w0 ([row rb 95 [.slice A l.length c, .int .i64 (p : Int), .int .i64 (y : Int)]] :: X :: [row xb 106 [.pointer (some ⟨rb, 0, none⟩), .slice LA (l.length - p) LC, .int .i64 (y : Int)]] :: R) x) (by kernel_rfl) (by kernel_rfl) (Hq.drew (Hp.qp [[row rb 95 [.slice A l.length c, .int .i64 (p : Int), .int .i64 (y : Int)]], X, [row xb 106 [.pointer (some ⟨rb, 0, none⟩), .slice LA (l.length - p) LC, .int .i64 (y : Int)]]] R [0, 1, 2] hA24)) ?_
      have hA25 := Hl.drew hA24
      refine vp_y hF rfl rfl rfl rfl (by decide) _ (fun x hx => y_move rfl rfl) (fun a hF => ?_)
      refine vp_y hF rfl rfl rfl rfl (by decide) _ (fun x hx => y_move rfl rfl) (fun a hF => ?_)
      refine vp_yg hF rfl rfl rfl rfl rfl rfl rfl (by decide) _ (fun x hx => y_move rfl rfl) (fun a hF => ?_)
      refine vp_yg hF rfl rfl rfl rfl rfl rfl rfl (by decide) _ (fun x hx => y_nilCheck rfl rfl) (fun a hF => ?_)
      refine vp_yg hF rfl rfl rfl rfl rfl rfl rfl (by decide) _ (fun x hx => y_field rfl Try.underlying106 rfl sz53_rx (by decide) rfl (rfl : (⟨_, 0 + _, none⟩ : Addr) = ⟨_, 0, none⟩)) (fun a hF => ?_)
      refine vp_yg hF rfl rfl rfl rfl rfl rfl rfl (by decide) _ (fun x hx => y_ld rfl hx rfl 2 rfl rfl nr53_rx) (fun a hF => ?_)
      refine vp_yg hF rfl rfl rfl rfl rfl rfl rfl (by decide) _ (fun x hx => y_move rfl rfl) (fun a hF => ?_)
      refine vp_yg hF rfl rfl rfl rfl rfl rfl rfl (by decide) _ (fun x hx => y_nilCheck rfl rfl) (fun a hF => ?_)
      refine vp_yg hF rfl rfl rfl rfl rfl rfl rfl (by decide) _ (fun x hx => y_field rfl Try.underlying106 rfl sz35_rx (by decide) rfl (rfl : (⟨_, 0 + _, none⟩ : Addr) = ⟨_, 1, none⟩)) (fun a hF => ?_)
      refine vp_yg hF rfl rfl rfl rfl rfl rfl rfl (by decide) _ (fun x hx => y_ld rfl hx rfl 2 rfl rfl nr35_rx) (fun a hF => ?_)
      refine vp_yg hF rfl rfl rfl rfl rfl rfl rfl (by decide) _ (fun x hx => y_lenSl rfl Try.underlying35 rfl rfl) (fun a hF => ?_)
      refine vp_lg hF rfl rfl rfl rfl rfl rfl (fun K hK => ws_call hF rfl (by decide) cl29_rx rfl rfl ?_)
      with_reducible refine (hr_left w0 _ _ rb A l c p y X hO hA25 hp hl ).mono ?_
      rintro e' w26 ⟨rfl, hA27⟩
      refine ⟨_, rfl, fun a hF => hK _ _ (fun _ => ?_) ?_⟩
      · exact Hp.qp [[row rb 95 [.slice A l.length c, .int .i64 (p : Int), .int .i64 (y : Int)]], X, [row xb 106 [.pointer (some ⟨rb, 0, none⟩), .slice LA (l.length - p) LC, .int .i64 (y : Int)]]] R [0, 1, 2] hA27
      clear hK K
      replace hA27 : Hp w0 ([row rb 95 [.slice A l.length c, .int .i64 (p : Int), .int .i64 (y : Int)]] :: X :: [row xb 106 [.pointer (some ⟨rb, 0, none⟩), .slice LA (l.length - p) LC, .int .i64 (y : Int)]] :: R) w26 := hA27
      refine vp_yg hF rfl rfl rfl rfl rfl rfl rfl (by decide) _ (fun x hx => y_cmp rfl rfl rfl rfl (eql_t rfl)) (fun a hF => ?_)
      refine vp_y hF rfl rfl rfl rfl (by decide) _ (fun x hx => y_pick rfl rfl rfl) (fun a hF => ?_)
      refine vp_y hF rfl rfl rfl rfl (by decide) _ (fun x hx => y_move rfl rfl) (fun a hF => ?_)
      refine vp_yg hF rfl rfl rfl rfl rfl rfl rfl (by decide) _ (fun x hx => y_move rfl rfl) (fun a hF => ?_)
      refine vp_yg hF rfl rfl rfl rfl rfl rfl rfl (by decide) _ (fun x hx => y_nilCheck rfl rfl) (fun a hF => ?_)
      refine vp_yg hF rfl rfl rfl rfl rfl rfl rfl (by decide) _ (fun x hx => y_field rfl Try.underlying106 rfl sz53_rx (by decide) rfl (rfl : (⟨_, 0 + _, none⟩ : Addr) = ⟨_, 0, none⟩)) (fun a hF => ?_)
      refine vp_yg hF rfl rfl rfl rfl rfl rfl rfl (by decide) _ (fun x hx => y_ld rfl hx rfl 2 rfl rfl nr53_rx) (fun a hF => ?_)
      refine vp_yg hF rfl rfl rfl rfl rfl rfl rfl (by decide) _ (fun x hx => y_move rfl rfl) (fun a hF => ?_)
      refine vp_yg hF rfl rfl rfl rfl rfl rfl rfl (by decide) _ (fun x hx => y_nilCheck rfl rfl) (fun a hF => ?_)
      refine vp_yg hF rfl rfl rfl rfl rfl rfl rfl (by decide) _ (fun x hx => y_field rfl Try.underlying106 rfl sz3_rx (by decide) rfl (rfl : (⟨_, 0 + _, none⟩ : Addr) = ⟨_, 2, none⟩)) (fun a hF => ?_)
      refine vp_yg hF rfl rfl rfl rfl rfl rfl rfl (by decide) _ (fun x hx => y_ld rfl hx rfl 2 rfl rfl nr3_rx) (fun a hF => ?_)
      refine vp_lg hF rfl rfl rfl rfl rfl rfl (fun K hK => ws_call hF rfl (by decide) cl31_rx rfl rfl ?_)
      with_reducible refine (hr_why w0 _ _ rb A l c p y X hO hA27 ).mono ?_
      rintro e' w28 ⟨rfl, hA29⟩
      refine ⟨_, rfl, fun a hF => hK _ _ (fun _ => ?_) ?_⟩
      · exact Hp.qp [[row rb 95 [.slice A l.length c, .int .i64 (p : Int), .int .i64 (y : Int)]], X, [row xb 106 [.pointer (some ⟨rb, 0, none⟩), .slice LA (l.length - p) LC, .int .i64 (y : Int)]]] R [0, 1, 2] hA29
      clear hK K
      replace hA29 : Hp w0 ([row rb 95 [.slice A l.length c, .int .i64 (p : Int), .int .i64 (y : Int)]] :: X :: [row xb 106 [.pointer (some ⟨rb, 0, none⟩), .slice LA (l.length - p) LC, .int .i64 (y : Int)]] :: R) w28 := hA29
      refine vp_yg hF rfl rfl rfl rfl rfl rfl rfl (by decide) _ (fun x hx => y_cmp rfl rfl rfl rfl (eql_t rfl)) (fun a hF => ?_)
      refine vp_y hF rfl rfl rfl rfl (by decide) _ (fun x hx => y_pick rfl rfl rfl) (fun a hF => ?_)
      refine vp_y hF rfl rfl rfl rfl (by decide) _ (fun x hx => y_move rfl rfl) (fun a hF => ?_)
      refine vp_yg hF rfl rfl rfl rfl rfl rfl rfl (by decide) _ (fun x hx => y_move rfl rfl) (fun a hF => ?_)
      refine vp_yg hF rfl rfl rfl rfl rfl rfl rfl (by decide) _ (fun x hx => y_nilCheck rfl rfl) (fun a hF => ?_)
      refine vp_yg hF rfl rfl rfl rfl rfl rfl rfl (by decide) _ (fun x hx => y_field rfl Try.underlying106 rfl sz53_rx (by decide) rfl (rfl : (⟨_, 0 + _, none⟩ : Addr) = ⟨_, 0, none⟩)) (fun a hF => ?_)
      refine vp_yg hF rfl rfl rfl rfl rfl rfl rfl (by decide) _ (fun x hx => y_ld rfl hx rfl 2 rfl rfl nr53_rx) (fun a hF => ?_)
      refine vp_yg hF rfl rfl rfl rfl rfl rfl rfl (by decide) _ (fun x hx => y_move rfl rfl) (fun a hF => ?_)
      refine vp_lg hF rfl rfl rfl rfl rfl rfl (fun K hK => ws_call hF rfl (by decide) cl30_rx rfl rfl ?_)
      with_reducible refine (hr_done w0 _ _ rb A l c p y X hO hA29 hp hl ).mono ?_
      rintro e' w30 ⟨rfl, hA31⟩
      refine ⟨_, rfl, fun a hF => hK _ _ (fun _ => ?_) ?_⟩
      · exact Hp.qp [[row rb 95 [.slice A l.length c, .int .i64 (p : Int), .int .i64 (y : Int)]], X, [row xb 106 [.pointer (some ⟨rb, 0, none⟩), .slice LA (l.length - p) LC, .int .i64 (y : Int)]]] R [0, 1, 2] hA31
      clear hK K
      replace hA31 : Hp w0 ([row rb 95 [.slice A l.length c, .int .i64 (p : Int), .int .i64 (y : Int)]] :: X :: [row xb 106 [.pointer (some ⟨rb, 0, none⟩), .slice LA (l.length - p) LC, .int .i64 (y : Int)]] :: R) w30 := hA31
      rw [hdn] at hF
      refine vp_yg hF rfl rfl rfl rfl rfl rfl rfl (by decide) _ (fun x hx => y_cmp rfl rfl rfl rfl (eql_t rfl)) (fun a hF => ?_)
      refine vp_y hF rfl rfl rfl rfl (by decide) _ (fun x hx => y_pick rfl rfl rfl) (fun a hF => ?_)
      refine vp_ly hF rfl rfl rfl rfl (by decide) _ (y_assign rfl rfl) (fun h => absurd h (by decide)) (fun a hF => ?_)
      refine plan_end ?_
      refine hK12 _ _ ?_; clear  hK12 K12
      apply wp_ret
      refine vc_ret1 hF Try.results34 rfl ?_
      have hA32 : Hp w0 ([row xb 106 [.pointer (some ⟨rb, 0, none⟩), .slice LA (l.length - p) LC, .int .i64 (y : Int)]] :: [row rb 95 [.slice A l.length c, .int .i64 (p : Int), .int .i64 (y : Int)]] :: X :: R) w30 := Hp.ord [[row rb 95 [.slice A l.length c, .int .i64 (p : Int), .int .i64 (y : Int)]], X, [row xb 106 [.pointer (some ⟨rb, 0, none⟩), .slice LA (l.length - p) LC, .int .i64 (y : Int)]]] R [2, 0, 1] hA31 rfl
      exact ⟨rfl, hA32⟩
  · have hdn : (((if y = 0 ∧ p < l.length then 8 else y : Nat)) : Int) = (y : Int) := by rw [if_neg (fun h => hy h.1)]
    apply wp_seq_k; intro K13 hK13
    refine wp_region_lit ?_
    refine vc_y hF rfl rfl (by decide) _ (y_assign rfl rfl) (fun a hF => ?_)
    refine vc_nil ?_
    refine hK13 _ _ ?_; clear  hK13 K13
    apply wp_seq_k; intro K14 hK14
    refine wp_region_lit ?_
    refine vc_y hF rfl rfl (by decide) _ (y_move rfl rfl) (fun a hF => ?_)
    refine vc_y hF rfl rfl (by decide) _ (y_nilCheck rfl rfl) (fun a hF => ?_)
    refine vc_y hF rfl rfl (by decide) _ (y_field rfl Try.underlying106 rfl sz3_rx (by decide) rfl (rfl : (⟨_, 0 + _, none⟩ : Addr) = ⟨_, 2, none⟩)) (fun a hF => ?_)
    refine vc_y hF rfl rfl (by decide) _ (y_ld rfl hA.q rfl 0 rfl rfl nr3_rx) (fun a hF => ?_)
    refine vc_y hF rfl rfl (by decide) _ (y_assign rfl rfl) (fun a hF => ?_)
    refine vc_nil ?_
    refine hK14 _ _ ?_; clear  hK14 K14
    apply wp_seq_k; intro K15 hK15
    apply wp_seq_k; intro K16 hK16
    refine wp_region_lit ?_
    refine vc_y hF rfl rfl (by decide) _ (y_move rfl rfl) (fun a hF => ?_)
    refine vc_y hF rfl rfl (by decide) _ (y_cmp rfl rfl rfl rfl (eql_f (by omega))) (fun a hF => ?_)
    refine vc_y hF rfl rfl (by decide) _ (y_move rfl rfl) (fun a hF => ?_)
    refine vc_skip hF rfl rfl rfl rfl rfl rfl (by decide) (fun a hF => ?_)
    refine vc_skip hF rfl rfl rfl rfl rfl rfl (by decide) (fun a hF => ?_)
    refine vc_skip hF rfl rfl rfl rfl rfl rfl (by decide) (fun a hF => ?_)
    refine vc_skip hF rfl rfl rfl rfl rfl rfl (by decide) (fun a hF => ?_)
    refine vc_skip hF rfl rfl rfl rfl rfl rfl (by decide) (fun a hF => ?_)
    refine vc_skip hF rfl rfl rfl rfl rfl rfl (by decide) (fun a hF => ?_)
    refine vc_y hF rfl rfl (by decide) _ (y_pick rfl rfl rfl) (fun a hF => ?_)
    refine vc_nil ?_
    refine hK16 _ _ ?_; clear  hK16 K16
    refine vc_false hF rfl ?_
    apply wp_skip
    refine hK15 _ _ ?_; clear  hK15 K15
    apply wp_seq_k; intro K17 hK17
    refine wp_region_plan 32 [4,16,28,32] [0,1,2,3,5,6,7,8,9,4,10,11,12,13,14,15,17,18,19,20,16,21,22,23,24,25,26,27,29,28,30,31,32] (fun x => Hq w0 ([row xb 106 [.pointer (some ⟨rb, 0, none⟩), .slice LA (l.length - p) LC, .int .i64 (y : Int)]] :: [row rb 95 [.slice A l.length c, .int .i64 (p : Int), .int .i64 (y : Int)]] :: X :: R) x) (by kernel_rfl) (by kernel_rfl) (Hq.drew (Hp.qp [[row xb 106 [.pointer (some ⟨rb, 0, none⟩), .slice LA (l.length - p) LC, .int .i64 (y : Int)]], [row rb 95 [.slice A l.length c, .int .i64 (p : Int), .int .i64 (y : Int)]], X] R [0, 1, 2] hA)) ?_
    have hA33 := Hl.drew hA
    refine vp_y hF rfl rfl rfl rfl (by decide) _ (fun x hx => y_move rfl rfl) (fun a hF => ?_)
    refine vp_y hF rfl rfl rfl rfl (by decide) _ (fun x hx => y_nilCheck rfl rfl) (fun a hF => ?_)
    refine vp_y hF rfl rfl rfl rfl (by decide) _ (fun x hx => y_field rfl Try.underlying106 rfl sz53_rx (by decide) rfl (rfl : (⟨_, 0 + _, none⟩ : Addr) = ⟨_, 0, none⟩)) (fun a hF => ?_)
    refine vp_y hF rfl rfl rfl rfl (by decide) _ (fun x hx => y_ld rfl hx rfl 0 rfl rfl nr53_rx) (fun a hF => ?_)
    refine vp_y hF rfl rfl rfl rfl (by decide) _ (fun x hx => y_move rfl rfl) (fun a hF => ?_)
    refine vp_y hF rfl rfl rfl rfl (by decide) _ (fun x hx => y_nilCheck rfl rfl) (fun a hF => ?_)
    refine vp_y hF rfl rfl rfl rfl (by decide) _ (fun x hx => y_field rfl Try.underlying106 rfl sz35_rx (by decide) rfl (rfl : (⟨_, 0 + _, none⟩ : Addr) = ⟨_, 1, none⟩)) (fun a hF => ?_)
    refine vp_y hF rfl rfl rfl rfl (by decide) _ (fun x hx => y_ld rfl hx rfl 0 rfl rfl nr35_rx) (fun a hF => ?_)
    refine vp_y hF rfl rfl rfl rfl (by decide) _ (fun x hx => y_lenSl rfl Try.underlying35 rfl rfl) (fun a hF => ?_)
    have hA34 : Hp w0 ([row rb 95 [.slice A l.length c, .int .i64 (p : Int), .int .i64 (y : Int)]] :: X :: [row xb 106 [.pointer (some ⟨rb, 0, none⟩), .slice LA (l.length - p) LC, .int .i64 (y : Int)]] :: R) w.drew := Hp.ord [[row xb 106 [.pointer (some ⟨rb, 0, none⟩), .slice LA (l.length - p) LC, .int .i64 (y : Int)]], [row rb 95 [.slice A l.length c, .int .i64 (p : Int), .int .i64 (y : Int)]], X] R [1, 2, 0] hA33 rfl
    refine vp_l rfl rfl rfl (fun K hK => ws_call hF rfl (by decide) cl29_rx rfl rfl ?_)
    with_reducible refine (hr_left w0 _ _ rb A l c p y X hO hA34 hp hl ).mono ?_
    rintro e' w35 ⟨rfl, hA36⟩
    refine ⟨_, rfl, fun a hF => hK _ _ (fun _ => ?_) ?_⟩
    · exact Hp.qp [[row rb 95 [.slice A l.length c, .int .i64 (p : Int), .int .i64 (y : Int)]], X, [row xb 106 [.pointer (some ⟨rb, 0, none⟩), .slice LA (l.length - p) LC, .int .i64 (y : Int)]]] R [2, 0, 1] hA36
    clear hK K
    replace hA36 : Hp w0 ([row rb 95 [.slice A l.length c, .int .i64 (p : Int), .int .i64 (y : Int)]] :: X :: [row xb 106 [.pointer (some ⟨rb, 0, none⟩), .slice LA (l.length - p) LC, .int .i64 (y : Int)]] :: R) w35 := hA36
    refine vp_y hF rfl rfl rfl rfl (by decide) _ (fun x hx => y_cmp rfl rfl rfl rfl (eql_t rfl)) (fun a hF => ?_)
    refine vp_y hF rfl rfl rfl rfl (by decide) _ (fun x hx => y_move rfl rfl) (fun a hF => ?_)
    refine vp_yg hF rfl rfl rfl rfl rfl rfl rfl (by decide) _ (fun x hx => y_move rfl rfl) (fun a hF => ?_)
    refine vp_yg hF rfl rfl rfl rfl rfl rfl rfl (by decide) _ (fun x hx => y_nilCheck rfl rfl) (fun a hF => ?_)
    refine vp_yg hF rfl rfl rfl rfl rfl rfl rfl (by decide) _ (fun x hx => y_field rfl Try.underlying106 rfl sz53_rx (by decide) rfl (rfl : (⟨_, 0 + _, none⟩ : Addr) = ⟨_, 0, none⟩)) (fun a hF => ?_)
    refine vp_yg hF rfl rfl rfl rfl rfl rfl rfl (by decide) _ (fun x hx => y_ld rfl hx rfl 0 rfl rfl nr53_rx) (fun a hF => ?_)
    refine vp_yg hF rfl rfl rfl rfl rfl rfl rfl (by decide) _ (fun x hx => y_move rfl rfl) (fun a hF => ?_)
    refine vp_yg hF rfl rfl rfl rfl rfl rfl rfl (by decide) _ (fun x hx => y_nilCheck rfl rfl) (fun a hF => ?_)
    refine vp_yg hF rfl rfl rfl rfl rfl rfl rfl (by decide) _ (fun x hx => y_field rfl Try.underlying106 rfl sz3_rx (by decide) rfl (rfl : (⟨_, 0 + _, none⟩ : Addr) = ⟨_, 2, none⟩)) (fun a hF => ?_)
    refine vp_yg hF rfl rfl rfl rfl rfl rfl rfl (by decide) _ (fun x hx => y_ld rfl hx rfl 0 rfl rfl nr3_rx) (fun a hF => ?_)
    refine vp_lg hF rfl rfl rfl rfl rfl rfl (fun K hK => ws_call hF rfl (by decide) cl31_rx rfl rfl ?_)
    with_reducible refine (hr_why w0 _ _ rb A l c p y X hO hA36 ).mono ?_
    rintro e' w37 ⟨rfl, hA38⟩
    refine ⟨_, rfl, fun a hF => hK _ _ (fun _ => ?_) ?_⟩
    · exact Hp.qp [[row rb 95 [.slice A l.length c, .int .i64 (p : Int), .int .i64 (y : Int)]], X, [row xb 106 [.pointer (some ⟨rb, 0, none⟩), .slice LA (l.length - p) LC, .int .i64 (y : Int)]]] R [2, 0, 1] hA38
    clear hK K
    replace hA38 : Hp w0 ([row rb 95 [.slice A l.length c, .int .i64 (p : Int), .int .i64 (y : Int)]] :: X :: [row xb 106 [.pointer (some ⟨rb, 0, none⟩), .slice LA (l.length - p) LC, .int .i64 (y : Int)]] :: R) w37 := hA38
    refine vp_yg hF rfl rfl rfl rfl rfl rfl rfl (by decide) _ (fun x hx => y_cmp rfl rfl rfl rfl (eql_t rfl)) (fun a hF => ?_)
    refine vp_y hF rfl rfl rfl rfl (by decide) _ (fun x hx => y_pick rfl rfl rfl) (fun a hF => ?_)
    refine vp_y hF rfl rfl rfl rfl (by decide) _ (fun x hx => y_move rfl rfl) (fun a hF => ?_)
    refine vp_yg hF rfl rfl rfl rfl rfl rfl rfl (by decide) _ (fun x hx => y_move rfl rfl) (fun a hF => ?_)
    refine vp_yg hF rfl rfl rfl rfl rfl rfl rfl (by decide) _ (fun x hx => y_nilCheck rfl rfl) (fun a hF => ?_)
    refine vp_yg hF rfl rfl rfl rfl rfl rfl rfl (by decide) _ (fun x hx => y_field rfl Try.underlying106 rfl sz53_rx (by decide) rfl (rfl : (⟨_, 0 + _, none⟩ : Addr) = ⟨_, 0, none⟩)) (fun a hF => ?_)
    refine vp_yg hF rfl rfl rfl rfl rfl rfl rfl (by decide) _ (fun x hx => y_ld rfl hx rfl 0 rfl rfl nr53_rx) (fun a hF => ?_)
    refine vp_yg hF rfl rfl rfl rfl rfl rfl rfl (by decide) _ (fun x hx => y_move rfl rfl) (fun a hF => ?_)
    refine vp_lg hF rfl rfl rfl rfl rfl rfl (fun K hK => ws_call hF rfl (by decide) cl30_rx rfl rfl ?_)
    with_reducible refine (hr_done w0 _ _ rb A l c p y X hO hA38 hp hl ).mono ?_
    rintro e' w39 ⟨rfl, hA40⟩
    refine ⟨_, rfl, fun a hF => hK _ _ (fun _ => ?_) ?_⟩
    · exact Hp.qp [[row rb 95 [.slice A l.length c, .int .i64 (p : Int), .int .i64 (y : Int)]], X, [row xb 106 [.pointer (some ⟨rb, 0, none⟩), .slice LA (l.length - p) LC, .int .i64 (y : Int)]]] R [2, 0, 1] hA40
    clear hK K
    replace hA40 : Hp w0 ([row rb 95 [.slice A l.length c, .int .i64 (p : Int), .int .i64 (y : Int)]] :: X :: [row xb 106 [.pointer (some ⟨rb, 0, none⟩), .slice LA (l.length - p) LC, .int .i64 (y : Int)]] :: R) w39 := hA40
    rw [hdn] at hF
    refine vp_yg hF rfl rfl rfl rfl rfl rfl rfl (by decide) _ (fun x hx => y_cmp rfl rfl rfl rfl (eql_t rfl)) (fun a hF => ?_)
    refine vp_y hF rfl rfl rfl rfl (by decide) _ (fun x hx => y_pick rfl rfl rfl) (fun a hF => ?_)
    refine vp_ly hF rfl rfl rfl rfl (by decide) _ (y_assign rfl rfl) (fun h => absurd h (by decide)) (fun a hF => ?_)
    refine plan_end ?_
    refine hK17 _ _ ?_; clear  hK17 K17
    apply wp_seq_k; intro K18 hK18
    refine wp_region_plan 35 [6,19,31,35] [0,1,2,3,4,5,7,8,9,10,11,6,12,13,14,15,16,17,18,20,21,22,23,19,24,25,26,27,28,29,30,32,31,33,34,35] (fun x => Hq w0 ([row rb 95 [.slice A l.length c, .int .i64 (p : Int), .int .i64 (y : Int)]] :: X :: [row xb 106 [.pointer (some ⟨rb, 0, none⟩), .slice LA (l.length - p) LC, .int .i64 (y : Int)]] :: R) x) (by kernel_rfl) (by kernel_rfl) (Hq.drew (Hp.qp [[row rb 95 [.slice A l.length c, .int .i64 (p : Int), .int .i64 (y : Int)]], X, [row xb 106 [.pointer (some ⟨rb, 0, none⟩), .slice LA (l.length - p) LC, .int .i64 (y : Int)]]] R [0, 1, 2] hA40)) ?_
    have hA41 := Hl.drew hA40
    refine vp_y hF rfl rfl rfl rfl (by decide) _ (fun x hx => y_move rfl rfl) (fun a hF => ?_)
    refine vp_y hF rfl rfl rfl rfl (by decide) _ (fun x hx => y_move rfl rfl) (fun a hF => ?_)
    refine vp_yg hF rfl rfl rfl rfl rfl rfl rfl (by decide) _ (fun x hx => y_move rfl rfl) (fun a hF => ?_)
    refine vp_yg hF rfl rfl rfl rfl rfl rfl rfl (by decide) _ (fun x hx => y_nilCheck rfl rfl) (fun a hF => ?_)
    refine vp_yg hF rfl rfl rfl rfl rfl rfl rfl (by decide) _ (fun x hx => y_field rfl Try.underlying106 rfl sz53_rx (by decide) rfl (rfl : (⟨_, 0 + _, none⟩ : Addr) = ⟨_, 0, none⟩)) (fun a hF => ?_)
    refine vp_yg hF rfl rfl rfl rfl rfl rfl rfl (by decide) _ (fun x hx => y_ld rfl hx rfl 2 rfl rfl nr53_rx) (fun a hF => ?_)
    refine vp_yg hF rfl rfl rfl rfl rfl rfl rfl (by decide) _ (fun x hx => y_move rfl rfl) (fun a hF => ?_)
    refine vp_yg hF rfl rfl rfl rfl rfl rfl rfl (by decide) _ (fun x hx => y_nilCheck rfl rfl) (fun a hF => ?_)
    refine vp_yg hF rfl rfl rfl rfl rfl rfl rfl (by decide) _ (fun x hx => y_field rfl Try.underlying106 rfl sz35_rx (by decide) rfl (rfl : (⟨_, 0 + _, none⟩ : Addr) = ⟨_, 1, none⟩)) (fun a hF => ?_)
    refine vp_yg hF rfl rfl rfl rfl rfl rfl rfl (by decide) _ (fun x hx => y_ld rfl hx rfl 2 rfl rfl nr35_rx) (fun a hF => ?_)
    refine vp_yg hF rfl rfl rfl rfl rfl rfl rfl (by decide) _ (fun x hx => y_lenSl rfl Try.underlying35 rfl rfl) (fun a hF => ?_)
    refine vp_lg hF rfl rfl rfl rfl rfl rfl (fun K hK => ws_call hF rfl (by decide) cl29_rx rfl rfl ?_)
    with_reducible refine (hr_left w0 _ _ rb A l c p y X hO hA41 hp hl ).mono ?_
    rintro e' w42 ⟨rfl, hA43⟩
    refine ⟨_, rfl, fun a hF => hK _ _ (fun _ => ?_) ?_⟩
    · exact Hp.qp [[row rb 95 [.slice A l.length c, .int .i64 (p : Int), .int .i64 (y : Int)]], X, [row xb 106 [.pointer (some ⟨rb, 0, none⟩), .slice LA (l.length - p) LC, .int .i64 (y : Int)]]] R [0, 1, 2] hA43
    clear hK K
    replace hA43 : Hp w0 ([row rb 95 [.slice A l.length c, .int .i64 (p : Int), .int .i64 (y : Int)]] :: X :: [row xb 106 [.pointer (some ⟨rb, 0, none⟩), .slice LA (l.length - p) LC, .int .i64 (y : Int)]] :: R) w42 := hA43
    refine vp_yg hF rfl rfl rfl rfl rfl rfl rfl (by decide) _ (fun x hx => y_cmp rfl rfl rfl rfl (eql_t rfl)) (fun a hF => ?_)
    refine vp_y hF rfl rfl rfl rfl (by decide) _ (fun x hx => y_pick rfl rfl rfl) (fun a hF => ?_)
    refine vp_y hF rfl rfl rfl rfl (by decide) _ (fun x hx => y_move rfl rfl) (fun a hF => ?_)
    refine vp_yg hF rfl rfl rfl rfl rfl rfl rfl (by decide) _ (fun x hx => y_move rfl rfl) (fun a hF => ?_)
    refine vp_yg hF rfl rfl rfl rfl rfl rfl rfl (by decide) _ (fun x hx => y_nilCheck rfl rfl) (fun a hF => ?_)
    refine vp_yg hF rfl rfl rfl rfl rfl rfl rfl (by decide) _ (fun x hx => y_field rfl Try.underlying106 rfl sz53_rx (by decide) rfl (rfl : (⟨_, 0 + _, none⟩ : Addr) = ⟨_, 0, none⟩)) (fun a hF => ?_)
    refine vp_yg hF rfl rfl rfl rfl rfl rfl rfl (by decide) _ (fun x hx => y_ld rfl hx rfl 2 rfl rfl nr53_rx) (fun a hF => ?_)
    refine vp_yg hF rfl rfl rfl rfl rfl rfl rfl (by decide) _ (fun x hx => y_move rfl rfl) (fun a hF => ?_)
    refine vp_yg hF rfl rfl rfl rfl rfl rfl rfl (by decide) _ (fun x hx => y_nilCheck rfl rfl) (fun a hF => ?_)
    refine vp_yg hF rfl rfl rfl rfl rfl rfl rfl (by decide) _ (fun x hx => y_field rfl Try.underlying106 rfl sz3_rx (by decide) rfl (rfl : (⟨_, 0 + _, none⟩ : Addr) = ⟨_, 2, none⟩)) (fun a hF => ?_)
    refine vp_yg hF rfl rfl rfl rfl rfl rfl rfl (by decide) _ (fun x hx => y_ld rfl hx rfl 2 rfl rfl nr3_rx) (fun a hF => ?_)
    refine vp_lg hF rfl rfl rfl rfl rfl rfl (fun K hK => ws_call hF rfl (by decide) cl31_rx rfl rfl ?_)
    with_reducible refine (hr_why w0 _ _ rb A l c p y X hO hA43 ).mono ?_
    rintro e' w44 ⟨rfl, hA45⟩
    refine ⟨_, rfl, fun a hF => hK _ _ (fun _ => ?_) ?_⟩
    · exact Hp.qp [[row rb 95 [.slice A l.length c, .int .i64 (p : Int), .int .i64 (y : Int)]], X, [row xb 106 [.pointer (some ⟨rb, 0, none⟩), .slice LA (l.length - p) LC, .int .i64 (y : Int)]]] R [0, 1, 2] hA45
    clear hK K
    replace hA45 : Hp w0 ([row rb 95 [.slice A l.length c, .int .i64 (p : Int), .int .i64 (y : Int)]] :: X :: [row xb 106 [.pointer (some ⟨rb, 0, none⟩), .slice LA (l.length - p) LC, .int .i64 (y : Int)]] :: R) w44 := hA45
    refine vp_yg hF rfl rfl rfl rfl rfl rfl rfl (by decide) _ (fun x hx => y_cmp rfl rfl rfl rfl (eql_t rfl)) (fun a hF => ?_)
    refine vp_y hF rfl rfl rfl rfl (by decide) _ (fun x hx => y_pick rfl rfl rfl) (fun a hF => ?_)
    refine vp_y hF rfl rfl rfl rfl (by decide) _ (fun x hx => y_move rfl rfl) (fun a hF => ?_)
    refine vp_yg hF rfl rfl rfl rfl rfl rfl rfl (by decide) _ (fun x hx => y_move rfl rfl) (fun a hF => ?_)
    refine vp_yg hF rfl rfl rfl rfl rfl rfl rfl (by decide) _ (fun x hx => y_nilCheck rfl rfl) (fun a hF => ?_)
    refine vp_yg hF rfl rfl rfl rfl rfl rfl rfl (by decide) _ (fun x hx => y_field rfl Try.underlying106 rfl sz53_rx (by decide) rfl (rfl : (⟨_, 0 + _, none⟩ : Addr) = ⟨_, 0, none⟩)) (fun a hF => ?_)
    refine vp_yg hF rfl rfl rfl rfl rfl rfl rfl (by decide) _ (fun x hx => y_ld rfl hx rfl 2 rfl rfl nr53_rx) (fun a hF => ?_)
    refine vp_yg hF rfl rfl rfl rfl rfl rfl rfl (by decide) _ (fun x hx => y_move rfl rfl) (fun a hF => ?_)
    refine vp_lg hF rfl rfl rfl rfl rfl rfl (fun K hK => ws_call hF rfl (by decide) cl30_rx rfl rfl ?_)
    with_reducible refine (hr_done w0 _ _ rb A l c p y X hO hA45 hp hl ).mono ?_
    rintro e' w46 ⟨rfl, hA47⟩
    refine ⟨_, rfl, fun a hF => hK _ _ (fun _ => ?_) ?_⟩
    · exact Hp.qp [[row rb 95 [.slice A l.length c, .int .i64 (p : Int), .int .i64 (y : Int)]], X, [row xb 106 [.pointer (some ⟨rb, 0, none⟩), .slice LA (l.length - p) LC, .int .i64 (y : Int)]]] R [0, 1, 2] hA47
    clear hK K
    replace hA47 : Hp w0 ([row rb 95 [.slice A l.length c, .int .i64 (p : Int), .int .i64 (y : Int)]] :: X :: [row xb 106 [.pointer (some ⟨rb, 0, none⟩), .slice LA (l.length - p) LC, .int .i64 (y : Int)]] :: R) w46 := hA47
    rw [hdn] at hF
    refine vp_yg hF rfl rfl rfl rfl rfl rfl rfl (by decide) _ (fun x hx => y_cmp rfl rfl rfl rfl (eql_t rfl)) (fun a hF => ?_)
    refine vp_y hF rfl rfl rfl rfl (by decide) _ (fun x hx => y_pick rfl rfl rfl) (fun a hF => ?_)
    refine vp_ly hF rfl rfl rfl rfl (by decide) _ (y_assign rfl rfl) (fun h => absurd h (by decide)) (fun a hF => ?_)
    refine plan_end ?_
    refine hK18 _ _ ?_; clear  hK18 K18
    apply wp_ret
    refine vc_ret1 hF Try.results34 rfl ?_
    have hA48 : Hp w0 ([row xb 106 [.pointer (some ⟨rb, 0, none⟩), .slice LA (l.length - p) LC, .int .i64 (y : Int)]] :: [row rb 95 [.slice A l.length c, .int .i64 (p : Int), .int .i64 (y : Int)]] :: X :: R) w46 := Hp.ord [[row rb 95 [.slice A l.length c, .int .i64 (p : Int), .int .i64 (y : Int)]], X, [row xb 106 [.pointer (some ⟨rb, 0, none⟩), .slice LA (l.length - p) LC, .int .i64 (y : Int)]]] R [2, 0, 1] hA47 rfl
    exact ⟨rfl, hA48⟩

theorem y_neNil {P : Program} {n : Nat} {F : List (Nat × Value)} {o : Oper} {w : World} {t : TypeId} {x y : Operand} {t' : TypeId} {ad : Addr} (ho : o.op = .binOp .neq t x y t') (hu : P.underlying t = some (.pointer (P.pointee t))) (hx : ev F x = some (.pointer (some ad))) (hy : ev F y = some (.pointer none)) : Yd P n F o w (.bool true) := fun a hF => by
  unfold execOp
  simp only [ho, hF.ev hx, hF.ev hy, Sem.run_bind]
  have h1 : (eqGuard .neq t x y (.pointer (some ad)) (.pointer none)).run P w = .ok () w := rfl
  rw [h1]
  simp only [Result.andThen_ok]
  rw [run_neq_pointer_nil w t (some ad) hu]
  rfl
def rxFlip (b : UInt8) : UInt8 := b ^^^ 255
theorem rx_xor (b : UInt8) : bits .xor .u8 ((b.toNat : Nat) : Int) 255 = ((rxFlip b).toNat : Int) := by
  rw [show (255 : Int) = ((255 : Nat) : Int) from rfl, u8_xor_nat _ _ b.toNat_lt (by decide)]
  rfl
theorem rx_set (bs : List UInt8) (i : Nat) (b : UInt8) : (dc bs).set (0 + i) (.int .u8 (b.toNat : Int)) = dc (bs.set i b) := by
  rw [Nat.zero_add]; unfold dc; rw [List.map_set]
theorem rx_roomyB (w0 w : World) (R : List Seg) (B : Option Addr) (l : List UInt8) (c : Nat) (hB : Rd w0 R B l) (hA : Hp w0 R w) (hl : l.length < 140737488354000) : Calls Try.prog 58 #[.slice B l.length c, .int .u8 165] w fun e w' => ∃ g, e = .returned (.slice (some ⟨g, 0, none⟩) (l.length + 80) (l.length + 80)) ∧ Hp w0 ([row g 5 (cel cB (l ++ List.replicate 80 165))] :: R) w' :=
  kb_roomy_byte w0 w R B l c 165 (by rw [← cel_dc]; exact hB) (fun _ _ => rfl) rfl hA hl
theorem rx_intactB (w0 w : World) (R : List Seg) (B B2 : Option Addr) (l : List UInt8) (c c2 : Nat) (hB : Rc w0 R B (cel cB (l ++ List.replicate 80 165))) (hB2 : Rd w0 R B2 l) (hc : l.length + 80 ≤ c) (hA : Hp w0 R w) (hl : l.length < 140737488354000) : Calls Try.prog 59 #[.slice B (l.length + 80) c, .slice B2 l.length c2, .int .u8 165] w fun e w' => e = .returned (.bool true) ∧ Hp w0 R w' :=
  kb_intact_byte w0 w R B B2 l c c2 165 hB (by rw [← cel_dc]; exact hB2) (fun _ _ => rfl) rfl hc hA hl
theorem rx_build (b n c : Nat) (A : Option Addr) (w : World) : (Instr.build 106 #[(0, .pointer (some ⟨b, 0, none⟩)), (1, .slice A n c), (2, .int .i64 0)]).run Try.prog w = .ok (.agg ([.pointer (some ⟨b, 0, none⟩), .slice A n c, .int .i64 0] : List Value).toArray) w := by kernel_rfl
theorem rx_bsP (b : Nat) (w : World) : (Instr.buildSlice 60 1 #[(0, .pointer (some ⟨b, 0, none⟩))]).run Try.prog w = .ok (.slice (some ⟨w.heap.size, 0, none⟩) 1 1) (w.alloc (.cells #[.pointer (some ⟨b, 0, none⟩)] 69)) := by kernel_rfl
theorem rx_elemP : elemInfo Try.prog 69 1 8 := elemInfo_of (z := .pointer none) (by kernel_rfl) (by kernel_rfl)
theorem rx_grow {n : Nat} (h : n < 1000000000) : (n + 1 + (n + 1) / 4 + 192) * 8 ≤ 281474976710656 := by omega
theorem ShB.head {sb : Nat} {bv rv : Value} {Y : Seg} (h : ShB sb bv rv Y) : ∃ cs Z, Y = row sb 68 (bv :: rv :: cs) :: Z := by
  obtain ⟨lb, wb, lt, wt, ld, wd, hb, ht, hd, kb, kt, kd, YB, YT, YD, hB, hT, hD, rfl⟩ := h
  exact ⟨_, _, rfl⟩
theorem ShOK.head {w0 : World} {F : List Seg} {sb n : Nat} {bv : Value} {l : List UInt8} {Y : Seg} (h : ShOK w0 F sb n bv l Y) : ∃ A c cs Z, Y = row sb 68 (bv :: .slice A n c :: cs) :: Z := by
  obtain ⟨qs, rv, XR, YS, hn, _, hR, hS, rfl⟩ := h
  obtain ⟨A, c, rfl, _⟩ := hR.slice
  obtain ⟨cs, Z, rfl⟩ := hS.head
  subst hn
  exact ⟨A, c, cs, _, rfl⟩

set_option maxRecDepth 100000 in
set_option maxHeartbeats 4000000 in
theorem rx_opens (w0 w : World) (F R : List Seg) (sb n : Nat) (bA : Option Addr) (bC : Nat) (bv : Value) (l : List UInt8) (Y : Seg) (hFR : F ⊆ R) (hbv : bv = .slice bA l.length bC) (hbC : l.length ≤ bC) (hB : Rd w0 F bA l) (hl : l.length < 140737488353900) (hsh : ShOK w0 F sb n bv l Y) (hn : n < 1000000000) (hA : Hp w0 (Y :: R) w) : Calls Try.prog 32 #[.pointer (some ⟨sb, 0, none⟩)] w fun e w' => ∃ Y', e = .returned (.bool true) ∧ ShOK w0 F sb (n + 1) bv l Y' ∧ Hp w0 (Y' :: R) w' := by
  replace hl : l.length < 140737488354000 := by omega
  subst hbv
  have hBR := hB.mono hFR
  obtain ⟨qs, rv, XR, YS, hn0, hqs, hR, hS, rfl⟩ := hsh
  obtain ⟨lb, wb, lt, wt, ld, wd, hb, ht, hd, kb, kt, kd, YB, YT, YD, hBk, hTk, hDk, rfl⟩ := hS
  replace hA : Hp w0 ([row sb 68 [.slice bA l.length bC, rv, lb, wb, .int .i64 hb, .bool false, lt, wt, .int .i64 ht, .bool false, ld, wd, .int .i64 hd, .bool false]] :: YB :: YT :: YD :: XR :: (qs.map (rxS l)).flatten :: R) w := hA.cast (by simp)
  refine vc_enter Try.func32 rfl Try.ntmps32 (Nat.le_of_ble_eq_true rfl) (fun a hF => ?_)
  apply wp_seq_k; intro K1 hK1
  refine wp_region_lit ?_
  refine vc_y hF rfl rfl (by decide) _ (y_assign rfl rfl) (fun a hF => ?_)
  refine vc_nil ?_
  refine hK1 _ _ ?_; clear  hK1 K1
  apply wp_seq_k; intro K2 hK2
  refine wp_region_lit ?_
  refine vc_y hF rfl rfl (by decide) _ (y_move rfl rfl) (fun a hF => ?_)
  refine vc_y hF rfl rfl (by decide) _ (y_nilCheck rfl rfl) (fun a hF => ?_)
  refine vc_y hF rfl rfl (by decide) _ (y_field rfl Try.underlying68 rfl sz35_rx (by decide) rfl (rfl : (⟨_, 0 + _, none⟩ : Addr) = ⟨_, 0, none⟩)) (fun a hF => ?_)
  refine vc_y hF rfl rfl (by decide) _ (y_ld rfl hA.q rfl 0 rfl rfl nr35_rx) (fun a hF => ?_)
  refine vc_op rfl (fun K hK => ws_call hF rfl (by decide) cl58_rx rfl rfl ?_)
  with_reducible refine (rx_roomyB w0 _ ([row sb 68 [.slice bA l.length bC, rv, lb, wb, .int .i64 hb, .bool false, lt, wt, .int .i64 ht, .bool false, ld, wd, .int .i64 hd, .bool false]] :: YB :: YT :: YD :: XR :: (qs.map (rxS l)).flatten :: R) bA l bC (hBR.mono (subC (subC (subC (subC (subC (subC (sub0)))))))) hA hl ).mono ?_
  rintro e' w1 ⟨g, rfl, hA2⟩
  refine ⟨_, rfl, fun a hF => hK _ _ ?_⟩
  clear hK K
  replace hA2 : Hp w0 ([row g 5 (cel cB (l ++ List.replicate 80 165))] :: [row sb 68 [.slice bA l.length bC, rv, lb, wb, .int .i64 hb, .bool false, lt, wt, .int .i64 ht, .bool false, ld, wd, .int .i64 hd, .bool false]] :: YB :: YT :: YD :: XR :: (qs.map (rxS l)).flatten :: R) w1 := hA2
  refine vc_y hF rfl rfl (by decide) _ (y_assign rfl rfl) (fun a hF => ?_)
  refine vc_nil ?_
  refine hK2 _ _ ?_; clear  hK2 K2
  apply wp_seq_k; intro K3 hK3
  refine wp_region_lit ?_
  refine vc_y hF rfl rfl (by decide) _ (y_move rfl rfl) (fun a hF => ?_)
  refine vc_y hF rfl rfl (by decide) _ (y_move rfl rfl) (fun a hF => ?_)
  refine vc_y hF rfl rfl (by decide) _ (y_nilCheck rfl rfl) (fun a hF => ?_)
  refine vc_y hF rfl rfl (by decide) _ (y_field rfl Try.underlying68 rfl sz35_rx (by decide) rfl (rfl : (⟨_, 0 + _, none⟩ : Addr) = ⟨_, 0, none⟩)) (fun a hF => ?_)
  refine vc_y hF rfl rfl (by decide) _ (y_ld rfl hA2.q rfl 1 rfl rfl nr35_rx) (fun a hF => ?_)
  refine vc_y hF rfl rfl (by decide) _ (y_lenSl rfl Try.underlying35 rfl rfl) (fun a hF => ?_)
  refine vc_y hF rfl rfl (by decide) _ (y_slice rfl Try.underlying35 kb_sz_byte rfl (.none 0) (.some rfl rfl) (Nat.zero_le _) (by omega) slice_to) (fun a hF => ?_)
  have hRg : Rd w0 ([row g 5 (cel cB (l ++ List.replicate 80 165))] :: [row sb 68 [.slice bA l.length bC, rv, lb, wb, .int .i64 hb, .bool false, lt, wt, .int .i64 ht, .bool false, ld, wd, .int .i64 hd, .bool false]] :: YB :: YT :: YD :: XR :: (qs.map (rxS l)).flatten :: R) (some ⟨g, 0, none⟩) l := by
    have h1 : Rc w0 ([row g 5 (cel cB (l ++ List.replicate 80 165))] :: [row sb 68 [.slice bA l.length bC, rv, lb, wb, .int .i64 hb, .bool false, lt, wt, .int .i64 ht, .bool false, ld, wd, .int .i64 hd, .bool false]] :: YB :: YT :: YD :: XR :: (qs.map (rxS l)).flatten :: R) (some ⟨g, 0, none⟩) (cel cB (l ++ List.replicate 80 165)) := Rc.ofRow (i := 0) (off := 0) rfl (by rw [List.drop_zero, List.take_length])
    have h2 := h1.take (cel cB l).length
    have e2 : (cel cB (l ++ List.replicate 80 165)).take (cel cB l).length = cel cB l := by rw [cel_append, List.take_left]
    rw [e2] at h2
    rw [Rd, cel_dc]; exact h2
  refine vc_op rfl (fun K hK => ws_call hF rfl (by decide) cl26_rx rfl rfl ?_)
  with_reducible refine (hr_read w0 _ _ (some ⟨g, 0, none⟩) l (l.length + 80) hRg hA2 hl ).mono ?_
  rintro e' w3 ⟨rb, A2, c2, X2, rfl, hO2, hA4⟩
  refine ⟨_, rfl, fun a hF => hK _ _ ?_⟩
  clear hK K
  replace hA4 : Hp w0 ([row rb 95 [.slice A2 l.length c2, .int .i64 ((0 : Nat) : Int), .int .i64 ((0 : Nat) : Int)]] :: X2 :: [row g 5 (cel cB (l ++ List.replicate 80 165))] :: [row sb 68 [.slice bA l.length bC, rv, lb, wb, .int .i64 hb, .bool false, lt, wt, .int .i64 ht, .bool false, ld, wd, .int .i64 hd, .bool false]] :: YB :: YT :: YD :: XR :: (qs.map (rxS l)).flatten :: R) w3 := hA4
  refine vc_y hF rfl rfl (by decide) _ (y_assign rfl rfl) (fun a hF => ?_)
  refine vc_nil ?_
  refine hK3 _ _ ?_; clear  hK3 K3
  apply wp_seq_k; intro K4 hK4
  refine wp_region_lit ?_
  refine vc_y hF rfl rfl (by decide) _ (y_move rfl rfl) (fun a hF => ?_)
  refine vc_y hF rfl rfl (by decide) _ (y_neNil rfl (by kernel_rfl) rfl rfl) (fun a hF => ?_)
  refine vc_y hF rfl rfl (by decide) _ (y_move rfl rfl) (fun a hF => ?_)
  refine vc_yg hF rfl rfl rfl rfl rfl (by decide) _ (y_move rfl rfl) (fun a hF => ?_)
  refine vc_yg hF rfl rfl rfl rfl rfl (by decide) _ (y_move rfl rfl) (fun a hF => ?_)
  refine vc_yg hF rfl rfl rfl rfl rfl (by decide) _ (y_nilCheck rfl rfl) (fun a hF => ?_)
  refine vc_yg hF rfl rfl rfl rfl rfl (by decide) _ (y_field rfl Try.underlying68 rfl sz35_rx (by decide) rfl (rfl : (⟨_, 0 + _, none⟩ : Addr) = ⟨_, 0, none⟩)) (fun a hF => ?_)
  refine vc_yg hF rfl rfl rfl rfl rfl (by decide) _ (y_ld rfl hA4.q rfl 3 rfl rfl nr35_rx) (fun a hF => ?_)
  refine vc_opg hF rfl rfl rfl rfl (fun K hK => ws_call hF rfl (by decide) cl59_rx rfl rfl ?_)
  with_reducible refine (rx_intactB w0 _ ([row rb 95 [.slice A2 l.length c2, .int .i64 ((0 : Nat) : Int), .int .i64 ((0 : Nat) : Int)]] :: X2 :: [row g 5 (cel cB (l ++ List.replicate 80 165))] :: [row sb 68 [.slice bA l.length bC, rv, lb, wb, .int .i64 hb, .bool false, lt, wt, .int .i64 ht, .bool false, ld, wd, .int .i64 hd, .bool false]] :: YB :: YT :: YD :: XR :: (qs.map (rxS l)).flatten :: R) (some ⟨g, 0, none⟩) bA l (l.length + 80) bC (Rc.ofRow (i := 2) (off := 0) rfl (by rw [List.drop_zero, List.take_length])) (hBR.mono (subC (subC (subC (subC (subC (subC (subC (subC (subC (sub0))))))))))) (Nat.le_refl _) hA4 hl ).mono ?_
  rintro e' w5 ⟨rfl, hA6⟩
  refine ⟨_, rfl, fun a hF => hK _ _ ?_⟩
  clear hK K
  replace hA6 : Hp w0 ([row rb 95 [.slice A2 l.length c2, .int .i64 ((0 : Nat) : Int), .int .i64 ((0 : Nat) : Int)]] :: X2 :: [row g 5 (cel cB (l ++ List.replicate 80 165))] :: [row sb 68 [.slice bA l.length bC, rv, lb, wb, .int .i64 hb, .bool false, lt, wt, .int .i64 ht, .bool false, ld, wd, .int .i64 hd, .bool false]] :: YB :: YT :: YD :: XR :: (qs.map (rxS l)).flatten :: R) w5 := hA6
  refine vc_y hF rfl rfl (by decide) _ (y_pick rfl rfl rfl) (fun a hF => ?_)
  refine vc_y hF rfl rfl (by decide) _ (y_assign rfl rfl) (fun a hF => ?_)
  refine vc_nil ?_
  refine hK4 _ _ ?_; clear  hK4 K4
  apply wp_seq_k; intro K5 hK5
  apply wp_seq_k; intro K6 hK6
  refine wp_region_lit ?_
  refine vc_y hF rfl rfl (by decide) _ (y_assign rfl rfl) (fun a hF => ?_)
  refine vc_nil ?_
  refine hK6 _ _ ?_; clear  hK6 K6
  apply wp_block
  have hA7 : Hp w0 ([row rb 95 [.slice A2 l.length c2, .int .i64 ((0 : Nat) : Int), .int .i64 ((0 : Nat) : Int)]] :: X2 :: [row g 5 (dc (l ++ List.replicate 80 165))] :: [row sb 68 [.slice bA l.length bC, rv, lb, wb, .int .i64 hb, .bool false, lt, wt, .int .i64 ht, .bool false, ld, wd, .int .i64 hd, .bool false]] :: YB :: YT :: YD :: XR :: (qs.map (rxS l)).flatten :: R) w5 := by rw [cel_dc]; exact hA6
  have hA8 : Hp w0 ([row rb 95 [.slice A2 l.length c2, .int .i64 ((0 : Nat) : Int), .int .i64 ((0 : Nat) : Int)]] :: X2 :: [row sb 68 [.slice bA l.length bC, rv, lb, wb, .int .i64 hb, .bool false, lt, wt, .int .i64 ht, .bool false, ld, wd, .int .i64 hd, .bool false]] :: YB :: YT :: YD :: XR :: (qs.map (rxS l)).flatten :: [row g 5 (dc (l ++ List.replicate 80 165))] :: R) w5 := Hp.ord [[row rb 95 [.slice A2 l.length c2, .int .i64 ((0 : Nat) : Int), .int .i64 ((0 : Nat) : Int)]], X2, [row g 5 (dc (l ++ List.replicate 80 165))], [row sb 68 [.slice bA l.length bC, rv, lb, wb, .int .i64 hb, .bool false, lt, wt, .int .i64 ht, .bool false, ld, wd, .int .i64 hd, .bool false]], YB, YT, YD, XR, (qs.map (rxS l)).flatten] R [0, 1, 3, 4, 5, 6, 7, 8, 2] hA7 rfl
  refine vc_loop (G := Nat) (fun i a x => ∃ (bs : List UInt8), i ≤ l.length + 80 ∧ bs.length = l.length + 80 ∧ Fr 61 [(6, .int .i64 (i : Int)), (0, .pointer (some ⟨sb, 0, none⟩)), (3, .slice (some ⟨g, 0, none⟩) (l.length + 80) (l.length + 80)), (4, .pointer (some ⟨rb, 0, none⟩)), (5, .bool true)] a ∧ Hp w0 ([row rb 95 [.slice A2 l.length c2, .int .i64 ((0 : Nat) : Int), .int .i64 ((0 : Nat) : Int)]] :: X2 :: [row sb 68 [.slice bA l.length bC, rv, lb, wb, .int .i64 hb, .bool false, lt, wt, .int .i64 ht, .bool false, ld, wd, .int .i64 hd, .bool false]] :: YB :: YT :: YD :: XR :: (qs.map (rxS l)).flatten :: [row g 5 (dc bs)] :: R) x) (fun i => l.length + 80 - i) 0 (⟨_, Nat.zero_le _, (by rw [List.length_append, List.length_replicate]), hF.keep [6, 0, 3, 4, 5] rfl, hA8⟩) ?_
  clear hF
  rintro i a w10 ⟨bs, hi, hbs, hF, hA9⟩
  apply wp_seq_k; intro K7 hK7
  apply wp_seq_k; intro K8 hK8
  refine wp_region_lit ?_
  refine vc_y hF rfl rfl (by decide) _ (y_move rfl rfl) (fun a hF => ?_)
  refine vc_y hF rfl rfl (by decide) _ (y_move rfl rfl) (fun a hF => ?_)
  refine vc_y hF rfl rfl (by decide) _ (y_lenSl rfl Try.underlying35 rfl rfl) (fun a hF => ?_)
  refine vc_y hF rfl rfl (by decide) _ (y_cmp rfl rfl rfl rfl rfl) (fun a hF => ?_)
  refine vc_nil ?_
  refine hK8 _ _ ?_; clear  hK8 K8
  by_cases hlt : i < l.length + 80
  · refine vc_trueB hF rfl (lss_t (by omega)) ?_
    have hib : i < bs.length := by omega
    apply wp_skip
    refine hK7 _ _ ?_; clear  hK7 K7
    apply wp_seq_k; intro K9 hK9
    apply wp_block
    refine wp_region_lit ?_
    refine vc_y hF rfl rfl (by decide) _ (y_move rfl rfl) (fun a hF => ?_)
    refine vc_y hF rfl rfl (by decide) _ (y_move rfl rfl) (fun a hF => ?_)
    refine vc_y hF rfl rfl (by decide) _ (y_move rfl rfl) (fun a hF => ?_)
    refine vc_y hF rfl rfl (by decide) _ (y_move rfl rfl) (fun a hF => ?_)
    refine vc_y hF rfl rfl (by decide) _ (y_ixSl rfl Try.underlying35 sz5_rx rfl rfl i rfl hlt (ad2 _ _ _)) (fun a hF => ?_)
    refine vc_y hF rfl rfl (by decide) _ (y_ld (u := .int .u8 ((bAt bs i).toNat : Int)) rfl hA9.q rfl 8 rfl (by rw [Nat.zero_add]; exact dc_at hib) nr5_rx) (fun a hF => ?_)
    refine vc_y hF rfl rfl (by decide) _ (y_xor rfl rfl rfl (rx_xor _)) (fun a hF => ?_)
    refine vc_y hF rfl rfl (by decide) _ (y_ixSl rfl Try.underlying35 sz5_rx rfl rfl i rfl hlt (ad2 _ _ _)) (fun a hF => ?_)
    refine vc_op rfl (fun K hK => hs_store1 hF rfl rfl hA9 rfl rfl 8 rfl (by rw [dc_length]; omega) rfl sz5_rx (fun w11 hA12 => hK _ _ ?_))
    clear hK K
    replace hA12 : Hp w0 ([row rb 95 [.slice A2 l.length c2, .int .i64 ((0 : Nat) : Int), .int .i64 ((0 : Nat) : Int)]] :: X2 :: [row sb 68 [.slice bA l.length bC, rv, lb, wb, .int .i64 hb, .bool false, lt, wt, .int .i64 ht, .bool false, ld, wd, .int .i64 hd, .bool false]] :: YB :: YT :: YD :: XR :: (qs.map (rxS l)).flatten :: [row g 5 ((dc bs).set (0 + i) (.int .u8 ((rxFlip (bAt bs i)).toNat : Int)))] :: R) w11 := hA12
    have hA13 : Hp w0 ([row rb 95 [.slice A2 l.length c2, .int .i64 ((0 : Nat) : Int), .int .i64 ((0 : Nat) : Int)]] :: X2 :: [row sb 68 [.slice bA l.length bC, rv, lb, wb, .int .i64 hb, .bool false, lt, wt, .int .i64 ht, .bool false, ld, wd, .int .i64 hd, .bool false]] :: YB :: YT :: YD :: XR :: (qs.map (rxS l)).flatten :: [row g 5 (dc (bs.set i (rxFlip (bAt bs i))))] :: R) w11 := by rw [← rx_set]; exact hA12
    refine vc_nil ?_
    refine hK9 _ _ ?_; clear  hK9 K9
    refine wp_region_lit ?_
    refine vc_y hF rfl rfl (by decide) _ (y_move rfl rfl) (fun a hF => ?_)
    refine vc_y hF rfl rfl (by decide) _ (y_add rfl rfl rfl (IntWalk.i64_in _ (by omega))) (fun a hF => ?_)
    refine vc_y hF rfl rfl (by decide) _ (y_assign rfl rfl) (fun a hF => ?_)
    refine vc_nil ?_
    exact ⟨i + 1, by omega, _, by omega, (by rw [List.length_set]; exact hbs), hF.keep [6, 0, 3, 4, 5] rfl, hA13⟩
  · refine vc_falseB hF rfl (lss_f (by omega)) ?_
    have hqb : qs.length < 1000000000 := by omega
    have hA14 : Hp w0 ([row rb 95 [.slice A2 l.length c2, .int .i64 ((0 : Nat) : Int), .int .i64 ((0 : Nat) : Int)]] :: X2 :: [row sb 68 [.slice bA l.length bC, rv, lb, wb, .int .i64 hb, .bool false, lt, wt, .int .i64 ht, .bool false, ld, wd, .int .i64 hd, .bool false]] :: YB :: YT :: YD :: XR :: (qs.map (rxS l)).flatten :: R) w10 := Hp.sel [[row rb 95 [.slice A2 l.length c2, .int .i64 ((0 : Nat) : Int), .int .i64 ((0 : Nat) : Int)]], X2, [row sb 68 [.slice bA l.length bC, rv, lb, wb, .int .i64 hb, .bool false, lt, wt, .int .i64 ht, .bool false, ld, wd, .int .i64 hd, .bool false]], YB, YT, YD, XR, (qs.map (rxS l)).flatten, [row g 5 (dc bs)]] R [0, 1, 2, 3, 4, 5, 6, 7] [8] hA9 rfl
    apply wp_exit
    refine hK5 _ _ ?_; clear hK7 K7 hK5 K5
    apply wp_seq_k; intro K10 hK10
    refine wp_region_plan 16 [11,12,13,16] [0,1,2,3,4,5,6,7,8,9,10,11,12,13,14,15,16] (fun x => Hq w0 ([row rb 95 [.slice A2 l.length c2, .int .i64 ((0 : Nat) : Int), .int .i64 ((0 : Nat) : Int)]] :: X2 :: [row sb 68 [.slice bA l.length bC, rv, lb, wb, .int .i64 hb, .bool false, lt, wt, .int .i64 ht, .bool false, ld, wd, .int .i64 hd, .bool false]] :: YB :: YT :: YD :: (qs.map (rxS l)).flatten :: R) x) (by kernel_rfl) (by kernel_rfl) (Hq.drew (Hp.qp [[row rb 95 [.slice A2 l.length c2, .int .i64 ((0 : Nat) : Int), .int .i64 ((0 : Nat) : Int)]], X2, [row sb 68 [.slice bA l.length bC, rv, lb, wb, .int .i64 hb, .bool false, lt, wt, .int .i64 ht, .bool false, ld, wd, .int .i64 hd, .bool false]], YB, YT, YD, XR, (qs.map (rxS l)).flatten] R [0, 1, 2, 3, 4, 5, 7] hA14)) ?_
    have hA15 := Hl.drew hA14
    refine vp_y hF rfl rfl rfl rfl (by decide) _ (fun x hx => y_move rfl rfl) (fun a hF => ?_)
    refine vp_y hF rfl rfl rfl rfl (by decide) _ (fun x hx => y_move rfl rfl) (fun a hF => ?_)
    refine vp_y hF rfl rfl rfl rfl (by decide) _ (fun x hx => y_nilCheck rfl rfl) (fun a hF => ?_)
    refine vp_y hF rfl rfl rfl rfl (by decide) _ (fun x hx => y_field rfl Try.underlying68 rfl sz60_rx (by decide) rfl (rfl : (⟨_, 0 + _, none⟩ : Addr) = ⟨_, 1, none⟩)) (fun a hF => ?_)
    refine vp_y hF rfl rfl rfl rfl (by decide) _ (fun x hx => y_ld rfl hx rfl 2 rfl rfl nr60_rx) (fun a hF => ?_)
    refine vp_y hF rfl rfl rfl rfl (by decide) _ (fun x hx => y_move rfl rfl) (fun a hF => ?_)
    refine vp_y hF rfl rfl rfl rfl (by decide) _ (fun x hx => y_move rfl rfl) (fun a hF => ?_)
    refine vp_y hF rfl rfl rfl rfl (by decide) _ (fun x hx => y_nilCheck rfl rfl) (fun a hF => ?_)
    refine vp_y hF rfl rfl rfl rfl (by decide) _ (fun x hx => y_field rfl Try.underlying68 rfl sz35_rx (by decide) rfl (rfl : (⟨_, 0 + _, none⟩ : Addr) = ⟨_, 0, none⟩)) (fun a hF => ?_)
    refine vp_y hF rfl rfl rfl rfl (by decide) _ (fun x hx => y_ld rfl hx rfl 2 rfl rfl nr35_rx) (fun a hF => ?_)
    refine vp_y hF rfl rfl rfl rfl (by decide) _ (fun x hx => y_build (qs := #[(0, .pointer (some ⟨rb, 0, none⟩)), (1, .slice bA l.length bC), (2, .int .i64 0)]) rfl rfl (rx_build _ _ _ _)) (fun a hF => ?_)
    refine vp_l rfl rfl rfl (fun K hK => hs_box (cs := [.pointer (some ⟨rb, 0, none⟩), .slice bA l.length bC, .int .i64 0]) hF rfl (by decide) rfl hA15 rfl (fun b16 w17 a hb16 hF hA18 => hK _ _ (fun _ => ?_) ?_))
    · exact Hp.qp [[row b16 106 [.pointer (some ⟨rb, 0, none⟩), .slice bA l.length bC, .int .i64 0]], [row rb 95 [.slice A2 l.length c2, .int .i64 ((0 : Nat) : Int), .int .i64 ((0 : Nat) : Int)]], X2, [row sb 68 [.slice bA l.length bC, rv, lb, wb, .int .i64 hb, .bool false, lt, wt, .int .i64 ht, .bool false, ld, wd, .int .i64 hd, .bool false]], YB, YT, YD, XR, (qs.map (rxS l)).flatten] R [1, 2, 3, 4, 5, 6, 8] hA18
    clear hK K
    replace hA18 : Hp w0 ([row b16 106 [.pointer (some ⟨rb, 0, none⟩), .slice bA l.length bC, .int .i64 0]] :: [row rb 95 [.slice A2 l.length c2, .int .i64 ((0 : Nat) : Int), .int .i64 ((0 : Nat) : Int)]] :: X2 :: [row sb 68 [.slice bA l.length bC, rv, lb, wb, .int .i64 hb, .bool false, lt, wt, .int .i64 ht, .bool false, ld, wd, .int .i64 hd, .bool false]] :: YB :: YT :: YD :: XR :: (qs.map (rxS l)).flatten :: R) w17 := hA18
    refine vp_l rfl rfl rfl (fun K hK => hs_bs1 (u1 := .pointer (some ⟨b16, 0, none⟩)) hF rfl (by decide) rfl hA18 rfl (rx_bsP b16) (fun b19 w20 a hb19 hF hA21 => hK _ _ (fun _ => ?_) ?_))
    · exact Hp.qp [[row b19 69 [.pointer (some ⟨b16, 0, none⟩)]], [row b16 106 [.pointer (some ⟨rb, 0, none⟩), .slice bA l.length bC, .int .i64 0]], [row rb 95 [.slice A2 l.length c2, .int .i64 ((0 : Nat) : Int), .int .i64 ((0 : Nat) : Int)]], X2, [row sb 68 [.slice bA l.length bC, rv, lb, wb, .int .i64 hb, .bool false, lt, wt, .int .i64 ht, .bool false, ld, wd, .int .i64 hd, .bool false]], YB, YT, YD, XR, (qs.map (rxS l)).flatten] R [2, 3, 4, 5, 6, 7, 9] hA21
    clear hK K
    replace hA21 : Hp w0 ([row b19 69 [.pointer (some ⟨b16, 0, none⟩)]] :: [row b16 106 [.pointer (some ⟨rb, 0, none⟩), .slice bA l.length bC, .int .i64 0]] :: [row rb 95 [.slice A2 l.length c2, .int .i64 ((0 : Nat) : Int), .int .i64 ((0 : Nat) : Int)]] :: X2 :: [row sb 68 [.slice bA l.length bC, rv, lb, wb, .int .i64 hb, .bool false, lt, wt, .int .i64 ht, .bool false, ld, wd, .int .i64 hd, .bool false]] :: YB :: YT :: YD :: XR :: (qs.map (rxS l)).flatten :: R) w20 := hA21
    refine vp_l rfl rfl rfl (fun K hK => hs_append hF rfl (by decide) rfl hA21 8 rfl hR Try.underlying60 rx_elemP rfl rfl (Rc.srcC (W := [.pointer (some ⟨b16, 0, none⟩)]) (m := 1) (size := 1) (R := [row b19 69 [.pointer (some ⟨b16, 0, none⟩)]] :: [row b16 106 [.pointer (some ⟨rb, 0, none⟩), .slice bA l.length bC, .int .i64 0]] :: [row rb 95 [.slice A2 l.length c2, .int .i64 ((0 : Nat) : Int), .int .i64 ((0 : Nat) : Int)]] :: X2 :: [row sb 68 [.slice bA l.length bC, rv, lb, wb, .int .i64 hb, .bool false, lt, wt, .int .i64 ht, .bool false, ld, wd, .int .i64 hd, .bool false]] :: YB :: YT :: YD :: XR :: (qs.map (rxS l)).flatten :: R) (Rc.ofRow (i := 0) (off := 0) rfl rfl) hA21.q Try.underlying60 (by decide) rfl (by simp [Value.oneCell'])) (rx_grow hqb) (by decide) (fun rv2 XR2 w22 a hR2 hF hA23 => hK _ _ (fun _ => ?_) ?_))
    · exact Hp.qp [[row b19 69 [.pointer (some ⟨b16, 0, none⟩)]], [row b16 106 [.pointer (some ⟨rb, 0, none⟩), .slice bA l.length bC, .int .i64 0]], [row rb 95 [.slice A2 l.length c2, .int .i64 ((0 : Nat) : Int), .int .i64 ((0 : Nat) : Int)]], X2, [row sb 68 [.slice bA l.length bC, rv, lb, wb, .int .i64 hb, .bool false, lt, wt, .int .i64 ht, .bool false, ld, wd, .int .i64 hd, .bool false]], YB, YT, YD, XR2, (qs.map (rxS l)).flatten] R [2, 3, 4, 5, 6, 7, 9] hA23
    clear hK K
    replace hA23 : Hp w0 ([row b19 69 [.pointer (some ⟨b16, 0, none⟩)]] :: [row b16 106 [.pointer (some ⟨rb, 0, none⟩), .slice bA l.length bC, .int .i64 0]] :: [row rb 95 [.slice A2 l.length c2, .int .i64 ((0 : Nat) : Int), .int .i64 ((0 : Nat) : Int)]] :: X2 :: [row sb 68 [.slice bA l.length bC, rv, lb, wb, .int .i64 hb, .bool false, lt, wt, .int .i64 ht, .bool false, ld, wd, .int .i64 hd, .bool false]] :: YB :: YT :: YD :: XR2 :: (qs.map (rxS l)).flatten :: R) w22 := hA23
    refine vp_y hF rfl rfl rfl rfl (by decide) _ (fun x hx => y_nilCheck rfl rfl) (fun a hF => ?_)
    refine vp_y hF rfl rfl rfl rfl (by decide) _ (fun x hx => y_field rfl Try.underlying68 rfl sz60_rx (by decide) rfl (rfl : (⟨_, 0 + _, none⟩ : Addr) = ⟨_, 1, none⟩)) (fun a hF => ?_)
    refine vp_l rfl rfl rfl (fun K hK => hs_store1 hF rfl rfl hA23 rfl rfl 4 rfl (by simp) hR2.one sz60_rx (fun w24 hA25 => hK _ _ (fun h => absurd h (by decide)) ?_))
    clear hK K
    replace hA25 : Hp w0 ([row b19 69 [.pointer (some ⟨b16, 0, none⟩)]] :: [row b16 106 [.pointer (some ⟨rb, 0, none⟩), .slice bA l.length bC, .int .i64 0]] :: [row rb 95 [.slice A2 l.length c2, .int .i64 ((0 : Nat) : Int), .int .i64 ((0 : Nat) : Int)]] :: X2 :: [row sb 68 [.slice bA l.length bC, rv2, lb, wb, .int .i64 hb, .bool false, lt, wt, .int .i64 ht, .bool false, ld, wd, .int .i64 hd, .bool false]] :: YB :: YT :: YD :: XR2 :: (qs.map (rxS l)).flatten :: R) w24 := hA25
    refine plan_end ?_
    refine hK10 _ _ ?_; clear  hK10 K10
    apply wp_seq_k; intro K11 hK11
    refine wp_region_lit ?_
    refine vc_y hF rfl rfl (by decide) _ (y_move rfl rfl) (fun a hF => ?_)
    refine vc_y hF rfl rfl (by decide) _ (y_assign rfl rfl) (fun a hF => ?_)
    refine vc_nil ?_
    refine hK11 _ _ ?_; clear  hK11 K11
    apply wp_ret
    refine vc_ret1 hF Try.results32 rfl ?_
    have hA26 : Hp w0 ([row sb 68 [.slice bA l.length bC, rv2, lb, wb, .int .i64 hb, .bool false, lt, wt, .int .i64 ht, .bool false, ld, wd, .int .i64 hd, .bool false]] :: YB :: YT :: YD :: XR2 :: (qs.map (rxS l)).flatten :: [row b16 106 [.pointer (some ⟨rb, 0, none⟩), .slice bA l.length bC, .int .i64 0]] :: [row rb 95 [.slice A2 l.length c2, .int .i64 ((0 : Nat) : Int), .int .i64 ((0 : Nat) : Int)]] :: X2 :: R) w24 := Hp.sel [[row b19 69 [.pointer (some ⟨b16, 0, none⟩)]], [row b16 106 [.pointer (some ⟨rb, 0, none⟩), .slice bA l.length bC, .int .i64 0]], [row rb 95 [.slice A2 l.length c2, .int .i64 ((0 : Nat) : Int), .int .i64 ((0 : Nat) : Int)]], X2, [row sb 68 [.slice bA l.length bC, rv2, lb, wb, .int .i64 hb, .bool false, lt, wt, .int .i64 ht, .bool false, ld, wd, .int .i64 hd, .bool false]], YB, YT, YD, XR2, (qs.map (rxS l)).flatten] R [4, 5, 6, 7, 8, 9, 1, 2, 3] [0] hA25 rfl
    have hlen : (qs ++ [(⟨b16, rb, 0, 0, A2, c2, X2, bA, bC⟩ : RX)]).length = qs.length + 1 := by simp
    have hqs2 : ∀ q ∈ qs ++ [(⟨b16, rb, 0, 0, A2, c2, X2, bA, bC⟩ : RX)], RXok w0 F l q := fun q h => by
      rcases List.mem_append.1 h with h | h
      · exact hqs q h
      · rw [List.mem_singleton] at h
        subst h
        exact ⟨hO2, Nat.zero_le _, hbC, hB⟩
    have hR3 : Buf 69 1 XR2 rv2 (qs ++ [(⟨b16, rb, 0, 0, A2, c2, X2, bA, bC⟩ : RX)]).length ((qs ++ [(⟨b16, rb, 0, 0, A2, c2, X2, bA, bC⟩ : RX)]).map rxP) := by rw [hlen, List.map_append]; exact hR2
    exact ⟨_, rfl, ⟨qs ++ [(⟨b16, rb, 0, 0, A2, c2, X2, bA, bC⟩ : RX)], rv2, XR2, _, by rw [hlen, hn0], hqs2, hR3, ⟨lb, wb, lt, wt, ld, wd, hb, ht, hd, kb, kt, kd, YB, YT, YD, hBk, hTk, hDk, rfl⟩, rfl⟩, hA26.cast (by simp [rxS, rxRead, rxRdr])⟩

theorem rx_takesN (w0 w : World) (R : List Seg) (rb : Nat) (A : Option Addr) (l : List UInt8) (c p y : Nat) (X : Seg) (o : OpX) (LA : Option Addr) (m LC : Nat) (hm : m = (leftOf l p y).length) (hL : Rd w0 R LA (leftOf l p y)) (hO : Buf 5 1 X (.slice A l.length c) l.length (dc l)) (hA : Hp w0 ([row rb 95 [.slice A l.length c, .int .i64 (p : Nat), .int .i64 (y : Nat)]] :: X :: R) w) (hp : p ≤ l.length) (hl : l.length < 140737488354000) : Calls Try.prog 60 #[.pointer (some ⟨rb, 0, none⟩), .slice LA m LC, .agg (opC o).toArray] w fun e' w' => ∃ (z : Int) (k e p' y' : Nat), e' = .returned (.tuple #[.int .u64 z, .int .u64 z, .int .i64 (k : Int), .int .i64 (e : Int)]) ∧ StepOK l p y p' y' k e ∧ Hp w0 ([row rb 95 [.slice A l.length c, .int .i64 (p' : Nat), .int .i64 (y' : Nat)]] :: X :: R) w' := by
  subst hm
  exact rd_takes w0 w R rb A l c p y X o LA _ LC rfl hL hO hA hp hl

theorem rx_laysN (w0 w : World) (R : List Seg) (sb rb : Nat) (bv rv : Value) (YS : Seg) (hS : ShB sb bv rv YS) (A : Option Addr) (l : List UInt8) (c p y : Nat) (X : Seg) (o : OpX) (hmany : -9223372036854775808 ≤ o.many ∧ o.many ≤ 9223372036854775807) (LA : Option Addr) (m LC : Nat) (hm : m = (leftOf l p y).length) (hLC : (leftOf l p y).length ≤ LC) (hL : Rd w0 R LA (leftOf l p y)) (hO : Buf 5 1 X (.slice A l.length c) l.length (dc l)) (hA : Hp w0 ([row rb 95 [.slice A l.length c, .int .i64 (p : Nat), .int .i64 (y : Nat)]] :: X :: YS :: R) w) (hp : p ≤ l.length) (hl : l.length < 140737488354000) : Calls Try.prog 61 #[.pointer (some ⟨sb, 0, none⟩), .pointer (some ⟨rb, 0, none⟩), .slice LA m LC, .agg (opC o).toArray] w fun e' w' => ∃ (k e p' y' : Nat) (YS' : Seg), e' = .returned (.tuple #[.bool true, .int .i64 (k : Int), .int .i64 (e : Int)]) ∧ StepOK l p y p' y' k e ∧ ShB sb bv rv YS' ∧ Hp w0 ([row rb 95 [.slice A l.length c, .int .i64 (p' : Nat), .int .i64 (y' : Nat)]] :: X :: YS' :: R) w' := by
  subst hm
  exact rd_lays w0 w R sb rb bv rv YS hS A l c p y X o hmany LA _ LC rfl hLC hL hO hA hp hl

theorem rx_spellsN (w0 w : World) (R : List Seg) (sb rb : Nat) (bv rv : Value) (YS : Seg) (hS : ShB sb bv rv YS) (A : Option Addr) (l : List UInt8) (c p y : Nat) (X : Seg) (o : OpX) (hmany : -9223372036854775808 ≤ o.many ∧ o.many ≤ 9223372036854775807) (LA : Option Addr) (m LC : Nat) (hm : m = (leftOf l p y).length) (hLC : (leftOf l p y).length ≤ LC) (hL : Rd w0 R LA (leftOf l p y)) (hO : Buf 5 1 X (.slice A l.length c) l.length (dc l)) (hA : Hp w0 ([row rb 95 [.slice A l.length c, .int .i64 (p : Nat), .int .i64 (y : Nat)]] :: X :: YS :: R) w) (hp : p ≤ l.length) (hl : l.length < 140737488354000) : Calls Try.prog 62 #[.pointer (some ⟨sb, 0, none⟩), .pointer (some ⟨rb, 0, none⟩), .slice LA m LC, .agg (opC o).toArray] w fun e' w' => ∃ (k e p' y' : Nat) (YS' : Seg), e' = .returned (.tuple #[.bool true, .int .i64 (k : Int), .int .i64 (e : Int)]) ∧ StepOK l p y p' y' k e ∧ ShB sb bv rv YS' ∧ Hp w0 ([row rb 95 [.slice A l.length c, .int .i64 (p' : Nat), .int .i64 (y' : Nat)]] :: X :: YS' :: R) w' := by
  subst hm
  exact rd_spells w0 w R sb rb bv rv YS hS A l c p y X o hmany LA _ LC rfl hLC hL hO hA hp hl

set_option maxRecDepth 100000 in
set_option maxHeartbeats 4000000 in
theorem rx_reads (w0 w : World) (R : List Seg) (sb n : Nat) (bA : Option Addr) (bC : Nat) (bv : Value) (l : List UInt8) (Y : Seg) (o : OpX) (hmany : -9223372036854775808 ≤ o.many ∧ o.many ≤ 9223372036854775807) (hbv : bv = .slice bA l.length bC) (hbC : l.length ≤ bC) (hB : Rd w0 R bA l) (hl : l.length < 140737488353900) (hsh : ShOK w0 R sb n bv l Y) (hn : 0 < n ∨ o.kind = 13) (hnb : n ≤ 20) (hA : Hp w0 (Y :: R) w) : Calls Try.prog 33 #[.pointer (some ⟨sb, 0, none⟩), .agg (opC o).toArray] w fun e w' => ∃ n' Y', e = .returned (.bool true) ∧ (n ≤ n' ∧ n' ≤ 20) ∧ ShOK w0 R sb n' bv l Y' ∧ Hp w0 (Y' :: R) w' := by
  have hl0 := hl
  replace hl : l.length < 140737488354000 := by omega
  refine vc_enter Try.func33 rfl Try.ntmps33 (Nat.le_of_ble_eq_true rfl) (fun a hF => ?_)
  apply wp_seq_k; intro K1 hK1
  refine wp_region_lit ?_
  refine vc_op rfl (fun K hK => hs_box (cs := [.int .i64 o.kind, .int .i64 o.at_, .int .u64 (o.v.n : Int), .int .i64 o.many, .bool o.v.b, .slice o.dA o.v.ds.length o.dC, .slice o.qA o.ps.length o.qC, .slice o.pA o.v.p.length o.pC, strV o.v.s, .slice o.sA o.v.ss.length o.sC, .int .i64 o.most, .int .i64 o.each]) hF rfl (by decide) rfl hA rfl (fun b1 w2 a hb1 hF hA3 => hK _ _ ?_))
  clear hK K
  replace hA3 : Hp w0 ([row b1 38 [.int .i64 o.kind, .int .i64 o.at_, .int .u64 (o.v.n : Int), .int .i64 o.many, .bool o.v.b, .slice o.dA o.v.ds.length o.dC, .slice o.qA o.ps.length o.qC, .slice o.pA o.v.p.length o.pC, strV o.v.s, .slice o.sA o.v.ss.length o.sC, .int .i64 o.most, .int .i64 o.each]] :: Y :: R) w2 := hA3
  refine vc_y hF rfl rfl (by decide) _ (y_assign rfl rfl) (fun a hF => ?_)
  refine vc_nil ?_
  refine hK1 _ _ ?_; clear  hK1 K1
  apply wp_seq_k; intro K2 hK2
  apply wp_seq_k; intro K3 hK3
  refine wp_region_lit ?_
  refine vc_y hF rfl rfl (by decide) _ (y_field rfl Try.underlying38 rfl sz3_rx (by decide) rfl (rfl : (⟨_, 0 + _, none⟩ : Addr) = ⟨_, 0, none⟩)) (fun a hF => ?_)
  refine vc_y hF rfl rfl (by decide) _ (y_ld rfl hA3.q rfl 0 rfl rfl nr3_rx) (fun a hF => ?_)
  refine vc_y hF rfl rfl (by decide) _ (y_cmp rfl rfl rfl rfl rfl) (fun a hF => ?_)
  refine vc_nil ?_
  refine hK3 _ _ ?_; clear  hK3 K3
  by_cases k13 : o.kind = 13
  · refine vc_trueB hF rfl (eql_t (by omega)) ?_
    obtain ⟨AR, cR, cs, Z, rfl⟩ := hsh.head
    by_cases h20 : 20 ≤ n
    · apply wp_seq_k; intro K4 hK4
      refine wp_region_lit ?_
      refine vc_y hF rfl rfl (by decide) _ (y_move rfl rfl) (fun a hF => ?_)
      refine vc_y hF rfl rfl (by decide) _ (y_nilCheck rfl rfl) (fun a hF => ?_)
      refine vc_y hF rfl rfl (by decide) _ (y_field rfl Try.underlying68 rfl sz60_rx (by decide) rfl (rfl : (⟨_, 0 + _, none⟩ : Addr) = ⟨_, 1, none⟩)) (fun a hF => ?_)
      refine vc_y hF rfl rfl (by decide) _ (y_ld rfl hA3.q rfl 1 rfl rfl nr60_rx) (fun a hF => ?_)
      refine vc_y hF rfl rfl (by decide) _ (y_lenSl rfl Try.underlying60 rfl rfl) (fun a hF => ?_)
      refine vc_y hF rfl rfl (by decide) _ (y_cmp rfl rfl rfl rfl (geq_t (by omega))) (fun a hF => ?_)
      refine vc_y hF rfl rfl (by decide) _ (y_move rfl rfl) (fun a hF => ?_)
      refine vc_skip hF rfl rfl rfl rfl rfl rfl (by decide) (fun a hF => ?_)
      refine vc_skip hF rfl rfl rfl rfl rfl rfl (by decide) (fun a hF => ?_)
      refine vc_y hF rfl rfl (by decide) _ (y_pick rfl rfl rfl) (fun a hF => ?_)
      refine vc_y hF rfl rfl (by decide) _ (y_assign rfl rfl) (fun a hF => ?_)
      refine vc_nil ?_
      refine hK4 _ _ ?_; clear  hK4 K4
      apply wp_ret
      simp only [Exit.then]
      refine vc_ret1 hF Try.results33 rfl ?_
      have hA4 : Hp w0 ((row sb 68 (bv :: .slice AR n cR :: cs) :: Z) :: R) w2 := Hp.sel [[row b1 38 [.int .i64 o.kind, .int .i64 o.at_, .int .u64 (o.v.n : Int), .int .i64 o.many, .bool o.v.b, .slice o.dA o.v.ds.length o.dC, .slice o.qA o.ps.length o.qC, .slice o.pA o.v.p.length o.pC, strV o.v.s, .slice o.sA o.v.ss.length o.sC, .int .i64 o.most, .int .i64 o.each]], (row sb 68 (bv :: .slice AR n cR :: cs) :: Z)] R [1] [0] hA3 rfl
      exact ⟨n, _, rfl, ⟨Nat.le_refl _, by omega⟩, hsh, hA4⟩
    · apply wp_seq_k; intro K5 hK5
      refine wp_region_lit ?_
      refine vc_y hF rfl rfl (by decide) _ (y_move rfl rfl) (fun a hF => ?_)
      refine vc_y hF rfl rfl (by decide) _ (y_nilCheck rfl rfl) (fun a hF => ?_)
      refine vc_y hF rfl rfl (by decide) _ (y_field rfl Try.underlying68 rfl sz60_rx (by decide) rfl (rfl : (⟨_, 0 + _, none⟩ : Addr) = ⟨_, 1, none⟩)) (fun a hF => ?_)
      refine vc_y hF rfl rfl (by decide) _ (y_ld rfl hA3.q rfl 1 rfl rfl nr60_rx) (fun a hF => ?_)
      refine vc_y hF rfl rfl (by decide) _ (y_lenSl rfl Try.underlying60 rfl rfl) (fun a hF => ?_)
      refine vc_y hF rfl rfl (by decide) _ (y_cmp rfl rfl rfl rfl (geq_f (by omega))) (fun a hF => ?_)
      refine vc_y hF rfl rfl (by decide) _ (y_move rfl rfl) (fun a hF => ?_)
      refine vc_yg hF rfl rfl rfl rfl rfl (by decide) _ (y_move rfl rfl) (fun a hF => ?_)
      have hA5 : Hp w0 ((row sb 68 (bv :: .slice AR n cR :: cs) :: Z) :: [row b1 38 [.int .i64 o.kind, .int .i64 o.at_, .int .u64 (o.v.n : Int), .int .i64 o.many, .bool o.v.b, .slice o.dA o.v.ds.length o.dC, .slice o.qA o.ps.length o.qC, .slice o.pA o.v.p.length o.pC, strV o.v.s, .slice o.sA o.v.ss.length o.sC, .int .i64 o.most, .int .i64 o.each]] :: R) w2 := Hp.ord [[row b1 38 [.int .i64 o.kind, .int .i64 o.at_, .int .u64 (o.v.n : Int), .int .i64 o.many, .bool o.v.b, .slice o.dA o.v.ds.length o.dC, .slice o.qA o.ps.length o.qC, .slice o.pA o.v.p.length o.pC, strV o.v.s, .slice o.sA o.v.ss.length o.sC, .int .i64 o.most, .int .i64 o.each]], (row sb 68 (bv :: .slice AR n cR :: cs) :: Z)] R [1, 0] hA3 rfl
      refine vc_opg hF rfl rfl rfl rfl (fun K hK => ws_call hF rfl (by decide) cl32_rx rfl rfl ?_)
      with_reducible refine (rx_opens w0 _ R ([row b1 38 [.int .i64 o.kind, .int .i64 o.at_, .int .u64 (o.v.n : Int), .int .i64 o.many, .bool o.v.b, .slice o.dA o.v.ds.length o.dC, .slice o.qA o.ps.length o.qC, .slice o.pA o.v.p.length o.pC, strV o.v.s, .slice o.sA o.v.ss.length o.sC, .int .i64 o.most, .int .i64 o.each]] :: R) sb n bA bC bv l _ (subC (sub0)) hbv hbC hB hl0 hsh (by omega) hA5 ).mono ?_
      rintro e' w6 ⟨Y', rfl, hsh2, hA7⟩
      refine ⟨_, rfl, fun a hF => hK _ _ ?_⟩
      clear hK K
      replace hA7 : Hp w0 (Y' :: [row b1 38 [.int .i64 o.kind, .int .i64 o.at_, .int .u64 (o.v.n : Int), .int .i64 o.many, .bool o.v.b, .slice o.dA o.v.ds.length o.dC, .slice o.qA o.ps.length o.qC, .slice o.pA o.v.p.length o.pC, strV o.v.s, .slice o.sA o.v.ss.length o.sC, .int .i64 o.most, .int .i64 o.each]] :: R) w6 := hA7
      refine vc_y hF rfl rfl (by decide) _ (y_pick rfl rfl rfl) (fun a hF => ?_)
      refine vc_y hF rfl rfl (by decide) _ (y_assign rfl rfl) (fun a hF => ?_)
      refine vc_nil ?_
      refine hK5 _ _ ?_; clear  hK5 K5
      apply wp_ret
      simp only [Exit.then]
      refine vc_ret1 hF Try.results33 rfl ?_
      have hA8 : Hp w0 (Y' :: R) w6 := Hp.sel [Y', [row b1 38 [.int .i64 o.kind, .int .i64 o.at_, .int .u64 (o.v.n : Int), .int .i64 o.many, .bool o.v.b, .slice o.dA o.v.ds.length o.dC, .slice o.qA o.ps.length o.qC, .slice o.pA o.v.p.length o.pC, strV o.v.s, .slice o.sA o.v.ss.length o.sC, .int .i64 o.most, .int .i64 o.each]]] R [0] [1] hA7 rfl
      exact ⟨n + 1, _, rfl, ⟨by omega, by omega⟩, hsh2, hA8⟩
  · refine vc_falseB hF rfl (eql_f (by omega)) ?_
    have hn1 : 0 < n := by
      rcases hn with h | h
      · exact h
      · exact absurd h k13
    obtain ⟨qs, rv, XR, YS, hn0, hqs, hR, hS, rfl⟩ := hsh
    obtain ⟨hwi1, hwi2⟩ := within_le o.at_ 0 ((qs.length : Int) - 1) (by omega)
    obtain ⟨i, hi⟩ := Int.eq_ofNat_of_zero_le hwi1
    have hiq : i < qs.length := by omega
    obtain ⟨cs0, Z0, rfl⟩ := hS.head
    obtain ⟨AR, cR, rfl, _, hRR⟩ := hR.rc (w0 := w0) (R := [XR]) (List.mem_cons_self ..)
    have hiR : i < (qs.map rxP).length := by rw [List.length_map]; omega
    obtain ⟨bR, pR, rfl, hcR⟩ := hRR.ne (i := i) hiR
    obtain ⟨⟨xb, rb, p, y, A, c, X, LA, LC⟩, hq⟩ : ∃ q, qs[i]? = some q := ⟨_, List.getElem?_eq_getElem (by omega)⟩
    obtain ⟨hO, hp, hLC, hLA⟩ : Buf 5 1 X (.slice A l.length c) l.length (dc l) ∧ p ≤ l.length ∧ (l.length - p ≤ LC ∧ Rd w0 R LA (l.drop p)) := hqs _ (List.mem_of_getElem? hq)
    have hqP : (qs.map rxP)[i]? = some (.pointer (some ⟨xb, 0, none⟩)) := by rw [List.getElem?_map, hq]; rfl
    have hqS : (qs.map (rxS l))[i]? = some (row xb 106 [.pointer (some ⟨rb, 0, none⟩), .slice LA (l.length - p) LC, .int .i64 ((y : Nat) : Int)] :: row rb 95 [.slice A l.length c, .int .i64 ((p : Nat) : Int), .int .i64 ((y : Nat) : Int)] :: X) := by rw [List.getElem?_map, hq]; rfl
    have hA9 : Hp w0 ([row b1 38 [.int .i64 o.kind, .int .i64 o.at_, .int .u64 (o.v.n : Int), .int .i64 o.many, .bool o.v.b, .slice o.dA o.v.ds.length o.dC, .slice o.qA o.ps.length o.qC, .slice o.pA o.v.p.length o.pC, strV o.v.s, .slice o.sA o.v.ss.length o.sC, .int .i64 o.most, .int .i64 o.each]] :: (row sb 68 (bv :: .slice (some ⟨bR, pR, none⟩) qs.length cR :: cs0) :: Z0) :: XR :: (qs.map (rxS l)).flatten :: R) w2 := hA3.cast (by simp)
    have hA10 : Hp w0 ((qs.map (rxS l)).flatten :: (row sb 68 (bv :: .slice (some ⟨bR, pR, none⟩) qs.length cR :: cs0) :: Z0) :: XR :: [row b1 38 [.int .i64 o.kind, .int .i64 o.at_, .int .u64 (o.v.n : Int), .int .i64 o.many, .bool o.v.b, .slice o.dA o.v.ds.length o.dC, .slice o.qA o.ps.length o.qC, .slice o.pA o.v.p.length o.pC, strV o.v.s, .slice o.sA o.v.ss.length o.sC, .int .i64 o.most, .int .i64 o.each]] :: R) w2 := Hp.ord [[row b1 38 [.int .i64 o.kind, .int .i64 o.at_, .int .u64 (o.v.n : Int), .int .i64 o.many, .bool o.v.b, .slice o.dA o.v.ds.length o.dC, .slice o.qA o.ps.length o.qC, .slice o.pA o.v.p.length o.pC, strV o.v.s, .slice o.sA o.v.ss.length o.sC, .int .i64 o.most, .int .i64 o.each]], (row sb 68 (bv :: .slice (some ⟨bR, pR, none⟩) qs.length cR :: cs0) :: Z0), XR, (qs.map (rxS l)).flatten] R [3, 1, 2, 0] hA9 rfl
    have hA11 : Hp w0 ([row xb 106 [.pointer (some ⟨rb, 0, none⟩), .slice LA (l.length - p) LC, .int .i64 (y : Int)]] :: [row rb 95 [.slice A l.length c, .int .i64 (p : Int), .int .i64 (y : Int)]] :: X :: (((qs.map (rxS l)).eraseIdx i).flatten) :: (row sb 68 (bv :: .slice (some ⟨bR, pR, none⟩) qs.length cR :: cs0) :: Z0) :: XR :: [row b1 38 [.int .i64 o.kind, .int .i64 o.at_, .int .u64 (o.v.n : Int), .int .i64 o.many, .bool o.v.b, .slice o.dA o.v.ds.length o.dC, .slice o.qA o.ps.length o.qC, .slice o.pA o.v.p.length o.pC, strV o.v.s, .slice o.sA o.v.ss.length o.sC, .int .i64 o.most, .int .i64 o.each]] :: R) w2 := (hA10.outS hqS).cast (by simp)
    apply wp_skip
    refine hK2 _ _ ?_; clear  hK2 K2
    apply wp_seq_k; intro K6 hK6
    refine wp_region_plan 15 [12,15] [0,1,2,3,4,5,6,7,8,9,10,11,12,13,14,15] (fun x => Hq w0 ([row xb 106 [.pointer (some ⟨rb, 0, none⟩), .slice LA (l.length - p) LC, .int .i64 (y : Int)]] :: [row rb 95 [.slice A l.length c, .int .i64 (p : Int), .int .i64 (y : Int)]] :: X :: (((qs.map (rxS l)).eraseIdx i).flatten) :: (row sb 68 (bv :: .slice (some ⟨bR, pR, none⟩) qs.length cR :: cs0) :: Z0) :: XR :: [row b1 38 [.int .i64 o.kind, .int .i64 o.at_, .int .u64 (o.v.n : Int), .int .i64 o.many, .bool o.v.b, .slice o.dA o.v.ds.length o.dC, .slice o.qA o.ps.length o.qC, .slice o.pA o.v.p.length o.pC, strV o.v.s, .slice o.sA o.v.ss.length o.sC, .int .i64 o.most, .int .i64 o.each]] :: R) x) (by kernel_rfl) (by kernel_rfl) (Hq.drew (Hp.qp [[row xb 106 [.pointer (some ⟨rb, 0, none⟩), .slice LA (l.length - p) LC, .int .i64 (y : Int)]], [row rb 95 [.slice A l.length c, .int .i64 (p : Int), .int .i64 (y : Int)]], X, (((qs.map (rxS l)).eraseIdx i).flatten), (row sb 68 (bv :: .slice (some ⟨bR, pR, none⟩) qs.length cR :: cs0) :: Z0), XR, [row b1 38 [.int .i64 o.kind, .int .i64 o.at_, .int .u64 (o.v.n : Int), .int .i64 o.many, .bool o.v.b, .slice o.dA o.v.ds.length o.dC, .slice o.qA o.ps.length o.qC, .slice o.pA o.v.p.length o.pC, strV o.v.s, .slice o.sA o.v.ss.length o.sC, .int .i64 o.most, .int .i64 o.each]]] R [0, 1, 2, 3, 4, 5, 6] hA11)) ?_
    have hA12 := Hl.drew hA11
    refine vp_y hF rfl rfl rfl rfl (by decide) _ (fun x hx => y_move rfl rfl) (fun a hF => ?_)
    refine vp_y hF rfl rfl rfl rfl (by decide) _ (fun x hx => y_nilCheck rfl rfl) (fun a hF => ?_)
    refine vp_y hF rfl rfl rfl rfl (by decide) _ (fun x hx => y_field rfl Try.underlying68 rfl sz60_rx (by decide) rfl (rfl : (⟨_, 0 + _, none⟩ : Addr) = ⟨_, 1, none⟩)) (fun a hF => ?_)
    refine vp_y hF rfl rfl rfl rfl (by decide) _ (fun x hx => y_ld (u := .slice (some ⟨bR, pR, none⟩) qs.length cR) rfl hx rfl 4 rfl rfl nr60_rx) (fun a hF => ?_)
    refine vp_y hF rfl rfl rfl rfl (by decide) _ (fun x hx => y_field rfl Try.underlying38 rfl sz3_rx (by decide) rfl (rfl : (⟨_, 0 + _, none⟩ : Addr) = ⟨_, 1, none⟩)) (fun a hF => ?_)
    refine vp_y hF rfl rfl rfl rfl (by decide) _ (fun x hx => y_ld rfl hx rfl 6 rfl rfl nr3_rx) (fun a hF => ?_)
    refine vp_y hF rfl rfl rfl rfl (by decide) _ (fun x hx => y_move rfl rfl) (fun a hF => ?_)
    refine vp_y hF rfl rfl rfl rfl (by decide) _ (fun x hx => y_nilCheck rfl rfl) (fun a hF => ?_)
    refine vp_y hF rfl rfl rfl rfl (by decide) _ (fun x hx => y_field rfl Try.underlying68 rfl sz60_rx (by decide) rfl (rfl : (⟨_, 0 + _, none⟩ : Addr) = ⟨_, 1, none⟩)) (fun a hF => ?_)
    refine vp_y hF rfl rfl rfl rfl (by decide) _ (fun x hx => y_ld (u := .slice (some ⟨bR, pR, none⟩) qs.length cR) rfl hx rfl 4 rfl rfl nr60_rx) (fun a hF => ?_)
    refine vp_y hF rfl rfl rfl rfl (by decide) _ (fun x hx => y_lenSl rfl Try.underlying60 rfl rfl) (fun a hF => ?_)
    refine vp_y hF rfl rfl rfl rfl (by decide) _ (fun x hx => y_sub rfl rfl rfl (IntWalk.i64_in _ (by omega))) (fun a hF => ?_)
    refine vp_l rfl rfl rfl (fun K hK => ws_call hF rfl (by decide) cl43_rx rfl rfl ?_)
    with_reducible refine (bk_within w2.drew o.at_ 0 ((qs.length : Int) - 1) (by decide) (by omega) (by omega) ).mono ?_
    rintro e' w15 ⟨rfl, rfl⟩
    refine ⟨_, rfl, fun a hF => hK _ _ (fun _ => ?_) ?_⟩
    · exact Hp.qp [[row xb 106 [.pointer (some ⟨rb, 0, none⟩), .slice LA (l.length - p) LC, .int .i64 (y : Int)]], [row rb 95 [.slice A l.length c, .int .i64 (p : Int), .int .i64 (y : Int)]], X, (((qs.map (rxS l)).eraseIdx i).flatten), (row sb 68 (bv :: .slice (some ⟨bR, pR, none⟩) qs.length cR :: cs0) :: Z0), XR, [row b1 38 [.int .i64 o.kind, .int .i64 o.at_, .int .u64 (o.v.n : Int), .int .i64 o.many, .bool o.v.b, .slice o.dA o.v.ds.length o.dC, .slice o.qA o.ps.length o.qC, .slice o.pA o.v.p.length o.pC, strV o.v.s, .slice o.sA o.v.ss.length o.sC, .int .i64 o.most, .int .i64 o.each]]] R [0, 1, 2, 3, 4, 5, 6] hA12
    clear hK K
    rw [hi] at hF
    refine vp_y hF rfl rfl rfl rfl (by decide) _ (fun x hx => y_ixSl rfl Try.underlying60 sz69_rx rfl rfl i rfl hiq (ad2 _ _ _)) (fun a hF => ?_)
    refine vp_y hF rfl rfl rfl rfl (by decide) _ (fun x hx => y_ldC (u := .pointer (some ⟨xb, 0, none⟩)) rfl (Hq.sub hx (sub1 (List.mem_cons_of_mem _ (List.mem_cons_of_mem _ (List.mem_cons_of_mem _ (List.mem_cons_of_mem _ (List.mem_cons_of_mem _ ((List.mem_cons_self ..))))))))) rfl hcR i hiR rfl hqP nr69_rx) (fun a hF => ?_)
    refine vp_ly hF rfl rfl rfl rfl (by decide) _ (y_assign rfl rfl) (fun h => absurd h (by decide)) (fun a hF => ?_)
    refine plan_end ?_
    refine hK6 _ _ ?_; clear  hK6 K6
    apply wp_seq_k; intro K7 hK7
    refine wp_region_lit ?_
    refine vc_y hF rfl rfl (by decide) _ (y_move rfl rfl) (fun a hF => ?_)
    refine vc_y hF rfl rfl (by decide) _ (y_nilCheck rfl rfl) (fun a hF => ?_)
    refine vc_y hF rfl rfl (by decide) _ (y_field rfl Try.underlying106 rfl sz35_rx (by decide) rfl (rfl : (⟨_, 0 + _, none⟩ : Addr) = ⟨_, 1, none⟩)) (fun a hF => ?_)
    refine vc_y hF rfl rfl (by decide) _ (y_ld rfl hA12.q rfl 0 rfl rfl nr35_rx) (fun a hF => ?_)
    refine vc_y hF rfl rfl (by decide) _ (y_assign rfl rfl) (fun a hF => ?_)
    refine vc_nil ?_
    refine hK7 _ _ ?_; clear  hK7 K7
    apply wp_seq_k; intro K8 hK8
    apply wp_seq_k; intro K9 hK9
    refine wp_region_lit ?_
    refine vc_y hF rfl rfl (by decide) _ (y_move rfl rfl) (fun a hF => ?_)
    refine vc_y hF rfl rfl (by decide) _ (y_nilCheck rfl rfl) (fun a hF => ?_)
    refine vc_y hF rfl rfl (by decide) _ (y_field rfl Try.underlying106 rfl sz3_rx (by decide) rfl (rfl : (⟨_, 0 + _, none⟩ : Addr) = ⟨_, 2, none⟩)) (fun a hF => ?_)
    refine vc_y hF rfl rfl (by decide) _ (y_ld rfl hA12.q rfl 0 rfl rfl nr3_rx) (fun a hF => ?_)
    refine vc_y hF rfl rfl (by decide) _ (y_cmp rfl rfl rfl rfl rfl) (fun a hF => ?_)
    refine vc_nil ?_
    refine hK9 _ _ ?_; clear  hK9 K9
    have tail1 : ∀ (a : Act) (x : World) (LB : Option Addr) (m LD : Nat), m = (leftOf l p y).length → (leftOf l p y).length ≤ LD → Rd w0 R LB (leftOf l p y) → Fr 140 [(6, .slice LB m LD), (0, .pointer (some ⟨sb, 0, none⟩)), (3, .pointer (some ⟨b1, 0, none⟩)), (5, .pointer (some ⟨xb, 0, none⟩))] a → Hp w0 ([row xb 106 [.pointer (some ⟨rb, 0, none⟩), .slice LA (l.length - p) LC, .int .i64 (y : Int)]] :: [row rb 95 [.slice A l.length c, .int .i64 (p : Int), .int .i64 (y : Int)]] :: X :: (((qs.map (rxS l)).eraseIdx i).flatten) :: (row sb 68 (bv :: .slice (some ⟨bR, pR, none⟩) qs.length cR :: cs0) :: Z0) :: XR :: [row b1 38 [.int .i64 o.kind, .int .i64 o.at_, .int .u64 (o.v.n : Int), .int .i64 o.many, .bool o.v.b, .slice o.dA o.v.ds.length o.dC, .slice o.qA o.ps.length o.qC, .slice o.pA o.v.p.length o.pC, strV o.v.s, .slice o.sA o.v.ss.length o.sC, .int .i64 o.most, .int .i64 o.each]] :: R) x → K8 a x := by
      clear hF
      intro a x LB m LD hm hLD hLB0 hF hA
      refine hK8 _ _ ?_; clear  hK8 K8
      apply wp_seq_k; intro K10 hK10
      refine wp_region_lit ?_
      refine vc_y hF rfl rfl (by decide) _ (y_assign rfl rfl) (fun a hF => ?_)
      refine vc_nil ?_
      refine hK10 _ _ ?_; clear  hK10 K10
      apply wp_seq_k; intro K11 hK11
      refine wp_region_lit ?_
      refine vc_y hF rfl rfl (by decide) _ (y_assign rfl rfl) (fun a hF => ?_)
      refine vc_nil ?_
      refine hK11 _ _ ?_; clear  hK11 K11
      apply wp_seq_k; intro K12 hK12
      refine wp_region_lit ?_
      refine vc_y hF rfl rfl (by decide) _ (y_assign rfl rfl) (fun a hF => ?_)
      refine vc_nil ?_
      refine hK12 _ _ ?_; clear  hK12 K12
      apply wp_seq_k; intro K13 hK13
      apply wp_seq_k; intro K14 hK14
      refine wp_region_lit ?_
      refine vc_y hF rfl rfl (by decide) _ (y_field rfl Try.underlying38 rfl sz3_rx (by decide) rfl (rfl : (⟨_, 0 + _, none⟩ : Addr) = ⟨_, 0, none⟩)) (fun a hF => ?_)
      refine vc_y hF rfl rfl (by decide) _ (y_ld rfl hA.q rfl 6 rfl rfl nr3_rx) (fun a hF => ?_)
      refine vc_nil ?_
      refine hK14 _ _ ?_; clear  hK14 K14
      have tail2 : ∀ (a : Act) (x : World) (p' y' k e : Nat) (YS' : Seg), StepOK l p y p' y' k e → ShB sb bv (.slice (some ⟨bR, pR, none⟩) qs.length cR) YS' → Fr 140 [(7, .bool true), (8, .int .i64 (k : Int)), (9, .int .i64 (e : Int)), (0, .pointer (some ⟨sb, 0, none⟩)), (5, .pointer (some ⟨xb, 0, none⟩))] a → Hp w0 ([row xb 106 [.pointer (some ⟨rb, 0, none⟩), .slice LA (l.length - p) LC, .int .i64 (y : Int)]] :: [row rb 95 [.slice A l.length c, .int .i64 (p' : Int), .int .i64 (y' : Int)]] :: X :: YS' :: (((qs.map (rxS l)).eraseIdx i).flatten) :: XR :: [row b1 38 [.int .i64 o.kind, .int .i64 o.at_, .int .u64 (o.v.n : Int), .int .i64 o.many, .bool o.v.b, .slice o.dA o.v.ds.length o.dC, .slice o.qA o.ps.length o.qC, .slice o.pA o.v.p.length o.pC, strV o.v.s, .slice o.sA o.v.ss.length o.sC, .int .i64 o.most, .int .i64 o.each]] :: R) x → K13 a x := by
        clear hF
        intro a x p' y' k e YS' hst hS' hF hA
        obtain ⟨hp1, hst1, hst2, hst3⟩ := hst
        have hFn := hF
        have hAn := hA
        by_cases hy : y = 0
        · obtain ⟨hst4, hst5⟩ := hst1 hy
          by_cases hy' : y' = 0
          · subst hy
            have hk := hst5 hy'
            subst hy'
            subst hst4
            have hF := hFn
            refine hK13 _ _ ?_; clear  hK13 K13
            apply wp_seq_k; intro K15 hK15
            apply wp_seq_k; intro K16 hK16
            refine wp_region_lit ?_
            refine vc_y hF rfl rfl (by decide) _ (y_move rfl rfl) (fun a hF => ?_)
            refine vc_y hF rfl rfl (by decide) _ (y_nilCheck rfl rfl) (fun a hF => ?_)
            refine vc_y hF rfl rfl (by decide) _ (y_field rfl Try.underlying106 rfl sz3_rx (by decide) rfl (rfl : (⟨_, 0 + _, none⟩ : Addr) = ⟨_, 2, none⟩)) (fun a hF => ?_)
            refine vc_y hF rfl rfl (by decide) _ (y_ld rfl hAn.q rfl 0 rfl rfl nr3_rx) (fun a hF => ?_)
            refine vc_y hF rfl rfl (by decide) _ (y_cmp rfl rfl rfl rfl (eql_t (by omega))) (fun a hF => ?_)
            refine vc_y hF rfl rfl (by decide) _ (y_move rfl rfl) (fun a hF => ?_)
            refine vc_yg hF rfl rfl rfl rfl rfl (by decide) _ (y_move rfl rfl) (fun a hF => ?_)
            refine vc_yg hF rfl rfl rfl rfl rfl (by decide) _ (y_cmp rfl rfl rfl rfl (neq_f rfl)) (fun a hF => ?_)
            refine vc_y hF rfl rfl (by decide) _ (y_pick rfl rfl rfl) (fun a hF => ?_)
            refine vc_nil ?_
            refine hK16 _ _ ?_; clear  hK16 K16
            refine vc_false hF rfl ?_
            apply wp_skip
            refine hK15 _ _ ?_; clear  hK15 K15
            apply wp_seq_k; intro K17 hK17
            apply wp_seq_k; intro K18 hK18
            refine wp_region_lit ?_
            refine vc_y hF rfl rfl (by decide) _ (y_move rfl rfl) (fun a hF => ?_)
            refine vc_y hF rfl rfl (by decide) _ (y_nilCheck rfl rfl) (fun a hF => ?_)
            refine vc_y hF rfl rfl (by decide) _ (y_field rfl Try.underlying106 rfl sz3_rx (by decide) rfl (rfl : (⟨_, 0 + _, none⟩ : Addr) = ⟨_, 2, none⟩)) (fun a hF => ?_)
            refine vc_y hF rfl rfl (by decide) _ (y_ld rfl hAn.q rfl 0 rfl rfl nr3_rx) (fun a hF => ?_)
            refine vc_y hF rfl rfl (by decide) _ (y_cmp rfl rfl rfl rfl (eql_t rfl)) (fun a hF => ?_)
            refine vc_nil ?_
            refine hK18 _ _ ?_; clear  hK18 K18
            refine vc_true hF rfl ?_
            have hLB : l.length - p' ≤ LC - k ∧ Rd w0 R (sub LA k LC 1) (l.drop p') := ⟨by omega, by have h := hLA.drop k (cap := LC) (by rw [List.length_drop]; omega); rw [List.drop_drop, ← hk] at h; exact h⟩
            refine wp_region_lit ?_
            refine vc_y hF rfl rfl (by decide) _ (y_move rfl rfl) (fun a hF => ?_)
            refine vc_y hF rfl rfl (by decide) _ (y_move rfl rfl) (fun a hF => ?_)
            refine vc_y hF rfl rfl (by decide) _ (y_nilCheck rfl rfl) (fun a hF => ?_)
            refine vc_y hF rfl rfl (by decide) _ (y_field rfl Try.underlying106 rfl sz35_rx (by decide) rfl (rfl : (⟨_, 0 + _, none⟩ : Addr) = ⟨_, 1, none⟩)) (fun a hF => ?_)
            refine vc_y hF rfl rfl (by decide) _ (y_ld rfl hAn.q rfl 0 rfl rfl nr35_rx) (fun a hF => ?_)
            refine vc_y hF rfl rfl (by decide) _ (y_move rfl rfl) (fun a hF => ?_)
            refine vc_y hF rfl rfl (by decide) _ (y_slice rfl Try.underlying35 kb_sz_byte rfl (.some rfl rfl) (.none _) (by omega) (by omega) (show Value.slice (sub LA k LC 1) (l.length - p - k) (LC - k) = .slice (sub LA k LC 1) (l.length - p') (LC - k) by rw [show l.length - p - k = l.length - p' by omega])) (fun a hF => ?_)
            refine vc_y hF rfl rfl (by decide) _ (y_nilCheck rfl rfl) (fun a hF => ?_)
            refine vc_y hF rfl rfl (by decide) _ (y_field rfl Try.underlying106 rfl sz35_rx (by decide) rfl (rfl : (⟨_, 0 + _, none⟩ : Addr) = ⟨_, 1, none⟩)) (fun a hF => ?_)
            refine vc_op rfl (fun K hK => hs_store1 hF rfl rfl hAn rfl rfl 0 rfl (by simp) rfl sz35_rx (fun w16 hA17 => hK _ _ ?_))
            clear hK K
            replace hA17 : Hp w0 ([row xb 106 [.pointer (some ⟨rb, 0, none⟩), .slice (sub LA k LC 1) (l.length - p') (LC - k), .int .i64 ((0 : Nat) : Int)]] :: [row rb 95 [.slice A l.length c, .int .i64 (p' : Int), .int .i64 ((0 : Nat) : Int)]] :: X :: YS' :: (((qs.map (rxS l)).eraseIdx i).flatten) :: XR :: [row b1 38 [.int .i64 o.kind, .int .i64 o.at_, .int .u64 (o.v.n : Int), .int .i64 o.many, .bool o.v.b, .slice o.dA o.v.ds.length o.dC, .slice o.qA o.ps.length o.qC, .slice o.pA o.v.p.length o.pC, strV o.v.s, .slice o.sA o.v.ss.length o.sC, .int .i64 o.most, .int .i64 o.each]] :: R) w16 := hA17
            refine vc_nil ?_
            refine hK17 _ _ ?_; clear  hK17 K17
            apply wp_seq_k; intro K19 hK19
            refine wp_region_lit ?_
            refine vc_y hF rfl rfl (by decide) _ (y_move rfl rfl) (fun a hF => ?_)
            refine vc_y hF rfl rfl (by decide) _ (y_move rfl rfl) (fun a hF => ?_)
            refine vc_yg hF rfl rfl rfl rfl rfl (by decide) _ (y_move rfl rfl) (fun a hF => ?_)
            refine vc_opg hF rfl rfl rfl rfl (fun K hK => ws_call hF rfl (by decide) cl34_rx rfl rfl ?_)
            with_reducible refine (rx_told w0 _ _ xb rb A l c p' 0 X (sub LA k LC 1) (LC - k) hO hp1 hl hA17 ).mono ?_
            rintro e' w18 ⟨rfl, hA19⟩
            refine ⟨_, rfl, fun a hF => hK _ _ ?_⟩
            clear hK K
            replace hA19 : Hp w0 ([row xb 106 [.pointer (some ⟨rb, 0, none⟩), .slice (sub LA k LC 1) (l.length - p') (LC - k), .int .i64 ((0 : Nat) : Int)]] :: [row rb 95 [.slice A l.length c, .int .i64 (p' : Int), .int .i64 ((0 : Nat) : Int)]] :: X :: YS' :: (((qs.map (rxS l)).eraseIdx i).flatten) :: XR :: [row b1 38 [.int .i64 o.kind, .int .i64 o.at_, .int .u64 (o.v.n : Int), .int .i64 o.many, .bool o.v.b, .slice o.dA o.v.ds.length o.dC, .slice o.qA o.ps.length o.qC, .slice o.pA o.v.p.length o.pC, strV o.v.s, .slice o.sA o.v.ss.length o.sC, .int .i64 o.most, .int .i64 o.each]] :: R) w18 := hA19
            refine vc_y hF rfl rfl (by decide) _ (y_pick rfl rfl rfl) (fun a hF => ?_)
            refine vc_y hF rfl rfl (by decide) _ (y_assign rfl rfl) (fun a hF => ?_)
            refine vc_nil ?_
            refine hK19 _ _ ?_; clear  hK19 K19
            apply wp_ret
            refine vc_ret1 hF Try.results33 rfl ?_
            have hA20 : Hp w0 ([row xb 106 [.pointer (some ⟨rb, 0, none⟩), .slice (sub LA k LC 1) (l.length - p') (LC - k), .int .i64 ((0 : Nat) : Int)]] :: [row rb 95 [.slice A l.length c, .int .i64 (p' : Int), .int .i64 ((0 : Nat) : Int)]] :: X :: (((qs.map (rxS l)).eraseIdx i).flatten) :: YS' :: XR :: R) w18 := Hp.sel [[row xb 106 [.pointer (some ⟨rb, 0, none⟩), .slice (sub LA k LC 1) (l.length - p') (LC - k), .int .i64 ((0 : Nat) : Int)]], [row rb 95 [.slice A l.length c, .int .i64 (p' : Int), .int .i64 ((0 : Nat) : Int)]], X, YS', (((qs.map (rxS l)).eraseIdx i).flatten), XR, [row b1 38 [.int .i64 o.kind, .int .i64 o.at_, .int .u64 (o.v.n : Int), .int .i64 o.many, .bool o.v.b, .slice o.dA o.v.ds.length o.dC, .slice o.qA o.ps.length o.qC, .slice o.pA o.v.p.length o.pC, strV o.v.s, .slice o.sA o.v.ss.length o.sC, .int .i64 o.most, .int .i64 o.each]]] R [0, 1, 2, 4, 3, 5] [6] hA19 rfl
            have hA21 : Hp w0 (((qs.map (rxS l)).set i (row xb 106 [.pointer (some ⟨rb, 0, none⟩), .slice (sub LA k LC 1) (l.length - p') (LC - k), .int .i64 ((0 : Nat) : Int)] :: row rb 95 [.slice A l.length c, .int .i64 ((p' : Nat) : Int), .int .i64 ((0 : Nat) : Int)] :: X)).flatten :: YS' :: XR :: R) w18 := Hp.inS (X := (row xb 106 [.pointer (some ⟨rb, 0, none⟩), .slice (sub LA k LC 1) (l.length - p') (LC - k), .int .i64 ((0 : Nat) : Int)] :: row rb 95 [.slice A l.length c, .int .i64 ((p' : Nat) : Int), .int .i64 ((0 : Nat) : Int)] :: X)) (hA20.cast (by simp)) (by rw [List.length_map]; omega)
            have hqs2 : ∀ q ∈ qs.set i (⟨xb, rb, p', 0, A, c, X, (sub LA k LC 1), (LC - k)⟩ : RX), RXok w0 R l q := fun q h => by
              rcases List.mem_or_eq_of_mem_set h with h | rfl
              · exact hqs q h
              · exact ⟨hO, hp1, hLB⟩
            have hlen : (qs.set i (⟨xb, rb, p', 0, A, c, X, (sub LA k LC 1), (LC - k)⟩ : RX)).length = qs.length := List.length_set
            have hR2 : Buf 69 1 XR (.slice (some ⟨bR, pR, none⟩) qs.length cR) (qs.set i (⟨xb, rb, p', 0, A, c, X, (sub LA k LC 1), (LC - k)⟩ : RX)).length ((qs.set i (⟨xb, rb, p', 0, A, c, X, (sub LA k LC 1), (LC - k)⟩ : RX)).map rxP) := by rw [hlen, map_set_same (f := rxP) (q' := (⟨xb, rb, p', 0, A, c, X, (sub LA k LC 1), (LC - k)⟩ : RX)) hq rfl]; exact hR
            have hfin : Hp w0 ((YS' ++ (XR ++ ((qs.set i (⟨xb, rb, p', 0, A, c, X, (sub LA k LC 1), (LC - k)⟩ : RX)).map (rxS l)).flatten)) :: R) w18 := by
              rw [List.map_set]
              have h2 : Hp w0 (YS' :: XR :: ((qs.map (rxS l)).set i (row xb 106 [.pointer (some ⟨rb, 0, none⟩), .slice (sub LA k LC 1) (l.length - p') (LC - k), .int .i64 ((0 : Nat) : Int)] :: row rb 95 [.slice A l.length c, .int .i64 ((p' : Nat) : Int), .int .i64 ((0 : Nat) : Int)] :: X)).flatten :: R) _ := Hp.ord [_, YS', XR] R [1, 2, 0] hA21 rfl
              exact h2.cast (by simp [rxS, rxRead, rxRdr])
            exact ⟨n, _, rfl, ⟨Nat.le_refl _, by omega⟩, ⟨qs.set i (⟨xb, rb, p', 0, A, c, X, (sub LA k LC 1), (LC - k)⟩ : RX), _, XR, YS', hlen.trans hn0, hqs2, hR2, hS', rfl⟩, hfin⟩
          · have hpp := hst2 hy'
            subst hpp
            subst hst4
            have hF := hFn
            refine hK13 _ _ ?_; clear  hK13 K13
            apply wp_seq_k; intro K20 hK20
            apply wp_seq_k; intro K21 hK21
            refine wp_region_lit ?_
            refine vc_y hF rfl rfl (by decide) _ (y_move rfl rfl) (fun a hF => ?_)
            refine vc_y hF rfl rfl (by decide) _ (y_nilCheck rfl rfl) (fun a hF => ?_)
            refine vc_y hF rfl rfl (by decide) _ (y_field rfl Try.underlying106 rfl sz3_rx (by decide) rfl (rfl : (⟨_, 0 + _, none⟩ : Addr) = ⟨_, 2, none⟩)) (fun a hF => ?_)
            refine vc_y hF rfl rfl (by decide) _ (y_ld rfl hAn.q rfl 0 rfl rfl nr3_rx) (fun a hF => ?_)
            refine vc_y hF rfl rfl (by decide) _ (y_cmp rfl rfl rfl rfl (eql_t (by omega))) (fun a hF => ?_)
            refine vc_y hF rfl rfl (by decide) _ (y_move rfl rfl) (fun a hF => ?_)
            refine vc_yg hF rfl rfl rfl rfl rfl (by decide) _ (y_move rfl rfl) (fun a hF => ?_)
            refine vc_yg hF rfl rfl rfl rfl rfl (by decide) _ (y_cmp rfl rfl rfl rfl (neq_t (by omega))) (fun a hF => ?_)
            refine vc_y hF rfl rfl (by decide) _ (y_pick rfl rfl rfl) (fun a hF => ?_)
            refine vc_nil ?_
            refine hK21 _ _ ?_; clear  hK21 K21
            refine vc_true hF rfl ?_
            refine wp_region_lit ?_
            refine vc_y hF rfl rfl (by decide) _ (y_move rfl rfl) (fun a hF => ?_)
            refine vc_y hF rfl rfl (by decide) _ (y_move rfl rfl) (fun a hF => ?_)
            refine vc_y hF rfl rfl (by decide) _ (y_nilCheck rfl rfl) (fun a hF => ?_)
            refine vc_y hF rfl rfl (by decide) _ (y_field rfl Try.underlying106 rfl sz3_rx (by decide) rfl (rfl : (⟨_, 0 + _, none⟩ : Addr) = ⟨_, 2, none⟩)) (fun a hF => ?_)
            refine vc_op rfl (fun K hK => hs_store1 hF rfl rfl hAn rfl rfl 0 rfl (by simp) rfl sz3_rx (fun w22 hA23 => hK _ _ ?_))
            clear hK K
            replace hA23 : Hp w0 ([row xb 106 [.pointer (some ⟨rb, 0, none⟩), .slice LA (l.length - p') LC, .int .i64 (e : Int)]] :: [row rb 95 [.slice A l.length c, .int .i64 (p' : Int), .int .i64 (e : Int)]] :: X :: YS' :: (((qs.map (rxS l)).eraseIdx i).flatten) :: XR :: [row b1 38 [.int .i64 o.kind, .int .i64 o.at_, .int .u64 (o.v.n : Int), .int .i64 o.many, .bool o.v.b, .slice o.dA o.v.ds.length o.dC, .slice o.qA o.ps.length o.qC, .slice o.pA o.v.p.length o.pC, strV o.v.s, .slice o.sA o.v.ss.length o.sC, .int .i64 o.most, .int .i64 o.each]] :: R) w22 := hA23
            refine vc_nil ?_
            refine hK20 _ _ ?_; clear  hK20 K20
            apply wp_seq_k; intro K22 hK22
            apply wp_seq_k; intro K23 hK23
            refine wp_region_lit ?_
            refine vc_y hF rfl rfl (by decide) _ (y_move rfl rfl) (fun a hF => ?_)
            refine vc_y hF rfl rfl (by decide) _ (y_nilCheck rfl rfl) (fun a hF => ?_)
            refine vc_y hF rfl rfl (by decide) _ (y_field rfl Try.underlying106 rfl sz3_rx (by decide) rfl (rfl : (⟨_, 0 + _, none⟩ : Addr) = ⟨_, 2, none⟩)) (fun a hF => ?_)
            refine vc_y hF rfl rfl (by decide) _ (y_ld rfl hA23.q rfl 0 rfl rfl nr3_rx) (fun a hF => ?_)
            refine vc_y hF rfl rfl (by decide) _ (y_cmp rfl rfl rfl rfl (eql_f (by omega))) (fun a hF => ?_)
            refine vc_nil ?_
            refine hK23 _ _ ?_; clear  hK23 K23
            refine vc_false hF rfl ?_
            have hLB := And.intro hLC hLA
            apply wp_skip
            refine hK22 _ _ ?_; clear  hK22 K22
            apply wp_seq_k; intro K24 hK24
            refine wp_region_lit ?_
            refine vc_y hF rfl rfl (by decide) _ (y_move rfl rfl) (fun a hF => ?_)
            refine vc_y hF rfl rfl (by decide) _ (y_move rfl rfl) (fun a hF => ?_)
            refine vc_yg hF rfl rfl rfl rfl rfl (by decide) _ (y_move rfl rfl) (fun a hF => ?_)
            refine vc_opg hF rfl rfl rfl rfl (fun K hK => ws_call hF rfl (by decide) cl34_rx rfl rfl ?_)
            with_reducible refine (rx_told w0 _ _ xb rb A l c p' e X LA LC hO hp1 hl hA23 ).mono ?_
            rintro e' w24 ⟨rfl, hA25⟩
            refine ⟨_, rfl, fun a hF => hK _ _ ?_⟩
            clear hK K
            replace hA25 : Hp w0 ([row xb 106 [.pointer (some ⟨rb, 0, none⟩), .slice LA (l.length - p') LC, .int .i64 (e : Int)]] :: [row rb 95 [.slice A l.length c, .int .i64 (p' : Int), .int .i64 (e : Int)]] :: X :: YS' :: (((qs.map (rxS l)).eraseIdx i).flatten) :: XR :: [row b1 38 [.int .i64 o.kind, .int .i64 o.at_, .int .u64 (o.v.n : Int), .int .i64 o.many, .bool o.v.b, .slice o.dA o.v.ds.length o.dC, .slice o.qA o.ps.length o.qC, .slice o.pA o.v.p.length o.pC, strV o.v.s, .slice o.sA o.v.ss.length o.sC, .int .i64 o.most, .int .i64 o.each]] :: R) w24 := hA25
            refine vc_y hF rfl rfl (by decide) _ (y_pick rfl rfl rfl) (fun a hF => ?_)
            refine vc_y hF rfl rfl (by decide) _ (y_assign rfl rfl) (fun a hF => ?_)
            refine vc_nil ?_
            refine hK24 _ _ ?_; clear  hK24 K24
            apply wp_ret
            refine vc_ret1 hF Try.results33 rfl ?_
            have hA26 : Hp w0 ([row xb 106 [.pointer (some ⟨rb, 0, none⟩), .slice LA (l.length - p') LC, .int .i64 (e : Int)]] :: [row rb 95 [.slice A l.length c, .int .i64 (p' : Int), .int .i64 (e : Int)]] :: X :: (((qs.map (rxS l)).eraseIdx i).flatten) :: YS' :: XR :: R) w24 := Hp.sel [[row xb 106 [.pointer (some ⟨rb, 0, none⟩), .slice LA (l.length - p') LC, .int .i64 (e : Int)]], [row rb 95 [.slice A l.length c, .int .i64 (p' : Int), .int .i64 (e : Int)]], X, YS', (((qs.map (rxS l)).eraseIdx i).flatten), XR, [row b1 38 [.int .i64 o.kind, .int .i64 o.at_, .int .u64 (o.v.n : Int), .int .i64 o.many, .bool o.v.b, .slice o.dA o.v.ds.length o.dC, .slice o.qA o.ps.length o.qC, .slice o.pA o.v.p.length o.pC, strV o.v.s, .slice o.sA o.v.ss.length o.sC, .int .i64 o.most, .int .i64 o.each]]] R [0, 1, 2, 4, 3, 5] [6] hA25 rfl
            have hA27 : Hp w0 (((qs.map (rxS l)).set i (row xb 106 [.pointer (some ⟨rb, 0, none⟩), .slice LA (l.length - p') LC, .int .i64 (e : Int)] :: row rb 95 [.slice A l.length c, .int .i64 ((p' : Nat) : Int), .int .i64 (e : Int)] :: X)).flatten :: YS' :: XR :: R) w24 := Hp.inS (X := (row xb 106 [.pointer (some ⟨rb, 0, none⟩), .slice LA (l.length - p') LC, .int .i64 (e : Int)] :: row rb 95 [.slice A l.length c, .int .i64 ((p' : Nat) : Int), .int .i64 (e : Int)] :: X)) (hA26.cast (by simp)) (by rw [List.length_map]; omega)
            have hqs2 : ∀ q ∈ qs.set i (⟨xb, rb, p', e, A, c, X, LA, LC⟩ : RX), RXok w0 R l q := fun q h => by
              rcases List.mem_or_eq_of_mem_set h with h | rfl
              · exact hqs q h
              · exact ⟨hO, hp1, hLB⟩
            have hlen : (qs.set i (⟨xb, rb, p', e, A, c, X, LA, LC⟩ : RX)).length = qs.length := List.length_set
            have hR2 : Buf 69 1 XR (.slice (some ⟨bR, pR, none⟩) qs.length cR) (qs.set i (⟨xb, rb, p', e, A, c, X, LA, LC⟩ : RX)).length ((qs.set i (⟨xb, rb, p', e, A, c, X, LA, LC⟩ : RX)).map rxP) := by rw [hlen, map_set_same (f := rxP) (q' := (⟨xb, rb, p', e, A, c, X, LA, LC⟩ : RX)) hq rfl]; exact hR
            have hfin : Hp w0 ((YS' ++ (XR ++ ((qs.set i (⟨xb, rb, p', e, A, c, X, LA, LC⟩ : RX)).map (rxS l)).flatten)) :: R) w24 := by
              rw [List.map_set]
              have h2 : Hp w0 (YS' :: XR :: ((qs.map (rxS l)).set i (row xb 106 [.pointer (some ⟨rb, 0, none⟩), .slice LA (l.length - p') LC, .int .i64 (e : Int)] :: row rb 95 [.slice A l.length c, .int .i64 ((p' : Nat) : Int), .int .i64 (e : Int)] :: X)).flatten :: R) _ := Hp.ord [_, YS', XR] R [1, 2, 0] hA27 rfl
              exact h2.cast (by simp [rxS, rxRead, rxRdr])
            exact ⟨n, _, rfl, ⟨Nat.le_refl _, by omega⟩, ⟨qs.set i (⟨xb, rb, p', e, A, c, X, LA, LC⟩ : RX), _, XR, YS', hlen.trans hn0, hqs2, hR2, hS', rfl⟩, hfin⟩
        · obtain rfl := hst3 hy
          obtain rfl := hst2 hy
          have hF := hFn
          refine hK13 _ _ ?_; clear  hK13 K13
          apply wp_seq_k; intro K25 hK25
          apply wp_seq_k; intro K26 hK26
          refine wp_region_lit ?_
          refine vc_y hF rfl rfl (by decide) _ (y_move rfl rfl) (fun a hF => ?_)
          refine vc_y hF rfl rfl (by decide) _ (y_nilCheck rfl rfl) (fun a hF => ?_)
          refine vc_y hF rfl rfl (by decide) _ (y_field rfl Try.underlying106 rfl sz3_rx (by decide) rfl (rfl : (⟨_, 0 + _, none⟩ : Addr) = ⟨_, 2, none⟩)) (fun a hF => ?_)
          refine vc_y hF rfl rfl (by decide) _ (y_ld rfl hAn.q rfl 0 rfl rfl nr3_rx) (fun a hF => ?_)
          refine vc_y hF rfl rfl (by decide) _ (y_cmp rfl rfl rfl rfl (eql_f (by omega))) (fun a hF => ?_)
          refine vc_y hF rfl rfl (by decide) _ (y_move rfl rfl) (fun a hF => ?_)
          refine vc_skip hF rfl rfl rfl rfl rfl rfl (by decide) (fun a hF => ?_)
          refine vc_skip hF rfl rfl rfl rfl rfl rfl (by decide) (fun a hF => ?_)
          refine vc_y hF rfl rfl (by decide) _ (y_pick rfl rfl rfl) (fun a hF => ?_)
          refine vc_nil ?_
          refine hK26 _ _ ?_; clear  hK26 K26
          refine vc_false hF rfl ?_
          apply wp_skip
          refine hK25 _ _ ?_; clear  hK25 K25
          apply wp_seq_k; intro K27 hK27
          apply wp_seq_k; intro K28 hK28
          refine wp_region_lit ?_
          refine vc_y hF rfl rfl (by decide) _ (y_move rfl rfl) (fun a hF => ?_)
          refine vc_y hF rfl rfl (by decide) _ (y_nilCheck rfl rfl) (fun a hF => ?_)
          refine vc_y hF rfl rfl (by decide) _ (y_field rfl Try.underlying106 rfl sz3_rx (by decide) rfl (rfl : (⟨_, 0 + _, none⟩ : Addr) = ⟨_, 2, none⟩)) (fun a hF => ?_)
          refine vc_y hF rfl rfl (by decide) _ (y_ld rfl hAn.q rfl 0 rfl rfl nr3_rx) (fun a hF => ?_)
          refine vc_y hF rfl rfl (by decide) _ (y_cmp rfl rfl rfl rfl (eql_f (by omega))) (fun a hF => ?_)
          refine vc_nil ?_
          refine hK28 _ _ ?_; clear  hK28 K28
          refine vc_false hF rfl ?_
          have hLB := And.intro hLC hLA
          apply wp_skip
          refine hK27 _ _ ?_; clear  hK27 K27
          apply wp_seq_k; intro K29 hK29
          refine wp_region_lit ?_
          refine vc_y hF rfl rfl (by decide) _ (y_move rfl rfl) (fun a hF => ?_)
          refine vc_y hF rfl rfl (by decide) _ (y_move rfl rfl) (fun a hF => ?_)
          refine vc_yg hF rfl rfl rfl rfl rfl (by decide) _ (y_move rfl rfl) (fun a hF => ?_)
          refine vc_opg hF rfl rfl rfl rfl (fun K hK => ws_call hF rfl (by decide) cl34_rx rfl rfl ?_)
          with_reducible refine (rx_told w0 _ _ xb rb A l c p' y' X LA LC hO hp1 hl hAn ).mono ?_
          rintro e' w28 ⟨rfl, hA29⟩
          refine ⟨_, rfl, fun a hF => hK _ _ ?_⟩
          clear hK K
          replace hA29 : Hp w0 ([row xb 106 [.pointer (some ⟨rb, 0, none⟩), .slice LA (l.length - p') LC, .int .i64 (y' : Int)]] :: [row rb 95 [.slice A l.length c, .int .i64 (p' : Int), .int .i64 (y' : Int)]] :: X :: YS' :: (((qs.map (rxS l)).eraseIdx i).flatten) :: XR :: [row b1 38 [.int .i64 o.kind, .int .i64 o.at_, .int .u64 (o.v.n : Int), .int .i64 o.many, .bool o.v.b, .slice o.dA o.v.ds.length o.dC, .slice o.qA o.ps.length o.qC, .slice o.pA o.v.p.length o.pC, strV o.v.s, .slice o.sA o.v.ss.length o.sC, .int .i64 o.most, .int .i64 o.each]] :: R) w28 := hA29
          refine vc_y hF rfl rfl (by decide) _ (y_pick rfl rfl rfl) (fun a hF => ?_)
          refine vc_y hF rfl rfl (by decide) _ (y_assign rfl rfl) (fun a hF => ?_)
          refine vc_nil ?_
          refine hK29 _ _ ?_; clear  hK29 K29
          apply wp_ret
          refine vc_ret1 hF Try.results33 rfl ?_
          have hA30 : Hp w0 ([row xb 106 [.pointer (some ⟨rb, 0, none⟩), .slice LA (l.length - p') LC, .int .i64 (y' : Int)]] :: [row rb 95 [.slice A l.length c, .int .i64 (p' : Int), .int .i64 (y' : Int)]] :: X :: (((qs.map (rxS l)).eraseIdx i).flatten) :: YS' :: XR :: R) w28 := Hp.sel [[row xb 106 [.pointer (some ⟨rb, 0, none⟩), .slice LA (l.length - p') LC, .int .i64 (y' : Int)]], [row rb 95 [.slice A l.length c, .int .i64 (p' : Int), .int .i64 (y' : Int)]], X, YS', (((qs.map (rxS l)).eraseIdx i).flatten), XR, [row b1 38 [.int .i64 o.kind, .int .i64 o.at_, .int .u64 (o.v.n : Int), .int .i64 o.many, .bool o.v.b, .slice o.dA o.v.ds.length o.dC, .slice o.qA o.ps.length o.qC, .slice o.pA o.v.p.length o.pC, strV o.v.s, .slice o.sA o.v.ss.length o.sC, .int .i64 o.most, .int .i64 o.each]]] R [0, 1, 2, 4, 3, 5] [6] hA29 rfl
          have hA31 : Hp w0 (((qs.map (rxS l)).set i (row xb 106 [.pointer (some ⟨rb, 0, none⟩), .slice LA (l.length - p') LC, .int .i64 (y' : Int)] :: row rb 95 [.slice A l.length c, .int .i64 ((p' : Nat) : Int), .int .i64 (y' : Int)] :: X)).flatten :: YS' :: XR :: R) w28 := Hp.inS (X := (row xb 106 [.pointer (some ⟨rb, 0, none⟩), .slice LA (l.length - p') LC, .int .i64 (y' : Int)] :: row rb 95 [.slice A l.length c, .int .i64 ((p' : Nat) : Int), .int .i64 (y' : Int)] :: X)) (hA30.cast (by simp)) (by rw [List.length_map]; omega)
          have hqs2 : ∀ q ∈ qs.set i (⟨xb, rb, p', y', A, c, X, LA, LC⟩ : RX), RXok w0 R l q := fun q h => by
            rcases List.mem_or_eq_of_mem_set h with h | rfl
            · exact hqs q h
            · exact ⟨hO, hp1, hLB⟩
          have hlen : (qs.set i (⟨xb, rb, p', y', A, c, X, LA, LC⟩ : RX)).length = qs.length := List.length_set
          have hR2 : Buf 69 1 XR (.slice (some ⟨bR, pR, none⟩) qs.length cR) (qs.set i (⟨xb, rb, p', y', A, c, X, LA, LC⟩ : RX)).length ((qs.set i (⟨xb, rb, p', y', A, c, X, LA, LC⟩ : RX)).map rxP) := by rw [hlen, map_set_same (f := rxP) (q' := (⟨xb, rb, p', y', A, c, X, LA, LC⟩ : RX)) hq rfl]; exact hR
          have hfin : Hp w0 ((YS' ++ (XR ++ ((qs.set i (⟨xb, rb, p', y', A, c, X, LA, LC⟩ : RX)).map (rxS l)).flatten)) :: R) w28 := by
            rw [List.map_set]
            have h2 : Hp w0 (YS' :: XR :: ((qs.map (rxS l)).set i (row xb 106 [.pointer (some ⟨rb, 0, none⟩), .slice LA (l.length - p') LC, .int .i64 (y' : Int)] :: row rb 95 [.slice A l.length c, .int .i64 ((p' : Nat) : Int), .int .i64 (y' : Int)] :: X)).flatten :: R) _ := Hp.ord [_, YS', XR] R [1, 2, 0] hA31 rfl
            exact h2.cast (by simp [rxS, rxRead, rxRdr])
          exact ⟨n, _, rfl, ⟨Nat.le_refl _, by omega⟩, ⟨qs.set i (⟨xb, rb, p', y', A, c, X, LA, LC⟩ : RX), _, XR, YS', hlen.trans hn0, hqs2, hR2, hS', rfl⟩, hfin⟩
      apply wp_block
      apply wp_seq_k; intro K30 hK30
      apply wp_seq_k; intro K31 hK31
      refine wp_region_lit ?_
      refine vc_y hF rfl rfl (by decide) _ (y_cmp rfl rfl rfl rfl rfl) (fun a hF => ?_)
      refine vc_y hF rfl rfl (by decide) _ (y_assign rfl rfl) (fun a hF => ?_)
      refine vc_nil ?_
      refine hK31 _ _ ?_; clear  hK31 K31
      by_cases k1 : o.kind = 1
      · refine vc_trueB hF rfl (eql_t (by omega)) ?_
        apply wp_skip
        refine hK30 _ _ ?_; clear  hK30 K30
        refine vc_trueB hF rfl (eql_t (by omega)) ?_
        apply wp_seq_k; intro K32 hK32
        refine wp_region_plan 15 [6,15] [0,1,2,3,4,5,6,7,8,9,10,11,12,13,14,15] (fun x => Hq w0 ([row xb 106 [.pointer (some ⟨rb, 0, none⟩), .slice LA (l.length - p) LC, .int .i64 (y : Int)]] :: (((qs.map (rxS l)).eraseIdx i).flatten) :: (row sb 68 (bv :: .slice (some ⟨bR, pR, none⟩) qs.length cR :: cs0) :: Z0) :: XR :: [row b1 38 [.int .i64 o.kind, .int .i64 o.at_, .int .u64 (o.v.n : Int), .int .i64 o.many, .bool o.v.b, .slice o.dA o.v.ds.length o.dC, .slice o.qA o.ps.length o.qC, .slice o.pA o.v.p.length o.pC, strV o.v.s, .slice o.sA o.v.ss.length o.sC, .int .i64 o.most, .int .i64 o.each]] :: R) x) (by kernel_rfl) (by kernel_rfl) (Hq.drew (Hp.qp [[row xb 106 [.pointer (some ⟨rb, 0, none⟩), .slice LA (l.length - p) LC, .int .i64 (y : Int)]], [row rb 95 [.slice A l.length c, .int .i64 (p : Int), .int .i64 (y : Int)]], X, (((qs.map (rxS l)).eraseIdx i).flatten), (row sb 68 (bv :: .slice (some ⟨bR, pR, none⟩) qs.length cR :: cs0) :: Z0), XR, [row b1 38 [.int .i64 o.kind, .int .i64 o.at_, .int .u64 (o.v.n : Int), .int .i64 o.many, .bool o.v.b, .slice o.dA o.v.ds.length o.dC, .slice o.qA o.ps.length o.qC, .slice o.pA o.v.p.length o.pC, strV o.v.s, .slice o.sA o.v.ss.length o.sC, .int .i64 o.most, .int .i64 o.each]]] R [0, 3, 4, 5, 6] hA)) ?_
        have hA32 := Hl.drew hA
        refine vp_y hF rfl rfl rfl rfl (by decide) _ (fun x hx => y_move rfl rfl) (fun a hF => ?_)
        refine vp_y hF rfl rfl rfl rfl (by decide) _ (fun x hx => y_nilCheck rfl rfl) (fun a hF => ?_)
        refine vp_y hF rfl rfl rfl rfl (by decide) _ (fun x hx => y_field rfl Try.underlying106 rfl sz53_rx (by decide) rfl (rfl : (⟨_, 0 + _, none⟩ : Addr) = ⟨_, 0, none⟩)) (fun a hF => ?_)
        refine vp_y hF rfl rfl rfl rfl (by decide) _ (fun x hx => y_ld rfl hx rfl 0 rfl rfl nr53_rx) (fun a hF => ?_)
        refine vp_y hF rfl rfl rfl rfl (by decide) _ (fun x hx => y_move rfl rfl) (fun a hF => ?_)
        refine vp_y hF rfl rfl rfl rfl (by decide) _ (fun x hx => y_ldRow (new := opC o) rfl hx rfl 4 rfl rw38_rx (Nat.le_of_ble_eq_true rfl) rfl) (fun a hF => ?_)
        have hA33 : Hp w0 ([row rb 95 [.slice A l.length c, .int .i64 (p : Int), .int .i64 (y : Int)]] :: X :: [row xb 106 [.pointer (some ⟨rb, 0, none⟩), .slice LA (l.length - p) LC, .int .i64 (y : Int)]] :: (((qs.map (rxS l)).eraseIdx i).flatten) :: (row sb 68 (bv :: .slice (some ⟨bR, pR, none⟩) qs.length cR :: cs0) :: Z0) :: XR :: [row b1 38 [.int .i64 o.kind, .int .i64 o.at_, .int .u64 (o.v.n : Int), .int .i64 o.many, .bool o.v.b, .slice o.dA o.v.ds.length o.dC, .slice o.qA o.ps.length o.qC, .slice o.pA o.v.p.length o.pC, strV o.v.s, .slice o.sA o.v.ss.length o.sC, .int .i64 o.most, .int .i64 o.each]] :: R) x.drew := Hp.ord [[row xb 106 [.pointer (some ⟨rb, 0, none⟩), .slice LA (l.length - p) LC, .int .i64 (y : Int)]], [row rb 95 [.slice A l.length c, .int .i64 (p : Int), .int .i64 (y : Int)]], X, (((qs.map (rxS l)).eraseIdx i).flatten), (row sb 68 (bv :: .slice (some ⟨bR, pR, none⟩) qs.length cR :: cs0) :: Z0), XR, [row b1 38 [.int .i64 o.kind, .int .i64 o.at_, .int .u64 (o.v.n : Int), .int .i64 o.many, .bool o.v.b, .slice o.dA o.v.ds.length o.dC, .slice o.qA o.ps.length o.qC, .slice o.pA o.v.p.length o.pC, strV o.v.s, .slice o.sA o.v.ss.length o.sC, .int .i64 o.most, .int .i64 o.each]]] R [1, 2, 0, 3, 4, 5, 6] hA32 rfl
        refine vp_l rfl rfl rfl (fun K hK => ws_call hF rfl (by decide) cl60_rx rfl rfl ?_)
        with_reducible refine (rx_takesN w0 _ ([row xb 106 [.pointer (some ⟨rb, 0, none⟩), .slice LA (l.length - p) LC, .int .i64 (y : Int)]] :: (((qs.map (rxS l)).eraseIdx i).flatten) :: (row sb 68 (bv :: .slice (some ⟨bR, pR, none⟩) qs.length cR :: cs0) :: Z0) :: XR :: [row b1 38 [.int .i64 o.kind, .int .i64 o.at_, .int .u64 (o.v.n : Int), .int .i64 o.many, .bool o.v.b, .slice o.dA o.v.ds.length o.dC, .slice o.qA o.ps.length o.qC, .slice o.pA o.v.p.length o.pC, strV o.v.s, .slice o.sA o.v.ss.length o.sC, .int .i64 o.most, .int .i64 o.each]] :: R) rb A l c p y X o LB m LD hm (hLB0.mono (subC (subC (subC (subC (subC (sub0))))))) hO hA33 hp hl ).mono ?_
        rintro e' w34 ⟨z, k, e, p', y', rfl, hst, hA35⟩
        refine ⟨_, rfl, fun a hF => hK _ _ (fun _ => ?_) ?_⟩
        · exact Hp.qp [[row rb 95 [.slice A l.length c, .int .i64 (p' : Int), .int .i64 (y' : Int)]], X, [row xb 106 [.pointer (some ⟨rb, 0, none⟩), .slice LA (l.length - p) LC, .int .i64 (y : Int)]], (((qs.map (rxS l)).eraseIdx i).flatten), (row sb 68 (bv :: .slice (some ⟨bR, pR, none⟩) qs.length cR :: cs0) :: Z0), XR, [row b1 38 [.int .i64 o.kind, .int .i64 o.at_, .int .u64 (o.v.n : Int), .int .i64 o.many, .bool o.v.b, .slice o.dA o.v.ds.length o.dC, .slice o.qA o.ps.length o.qC, .slice o.pA o.v.p.length o.pC, strV o.v.s, .slice o.sA o.v.ss.length o.sC, .int .i64 o.most, .int .i64 o.each]]] R [2, 3, 4, 5, 6] hA35
        clear hK K
        replace hA35 : Hp w0 ([row rb 95 [.slice A l.length c, .int .i64 (p' : Int), .int .i64 (y' : Int)]] :: X :: [row xb 106 [.pointer (some ⟨rb, 0, none⟩), .slice LA (l.length - p) LC, .int .i64 (y : Int)]] :: (((qs.map (rxS l)).eraseIdx i).flatten) :: (row sb 68 (bv :: .slice (some ⟨bR, pR, none⟩) qs.length cR :: cs0) :: Z0) :: XR :: [row b1 38 [.int .i64 o.kind, .int .i64 o.at_, .int .u64 (o.v.n : Int), .int .i64 o.many, .bool o.v.b, .slice o.dA o.v.ds.length o.dC, .slice o.qA o.ps.length o.qC, .slice o.pA o.v.p.length o.pC, strV o.v.s, .slice o.sA o.v.ss.length o.sC, .int .i64 o.most, .int .i64 o.each]] :: R) w34 := hA35
        refine vp_y hF rfl rfl rfl rfl (by decide) _ (fun x hx => y_move rfl rfl) (fun a hF => ?_)
        refine vp_y hF rfl rfl rfl rfl (by decide) _ (fun x hx => y_extract (v := .int .u64 z) rfl rfl rfl) (fun a hF => ?_)
        refine vp_y hF rfl rfl rfl rfl (by decide) _ (fun x hx => y_extract (v := .int .u64 z) rfl rfl rfl) (fun a hF => ?_)
        refine vp_y hF rfl rfl rfl rfl (by decide) _ (fun x hx => y_extract (v := .int .i64 (k : Int)) rfl rfl rfl) (fun a hF => ?_)
        refine vp_y hF rfl rfl rfl rfl (by decide) _ (fun x hx => y_extract (v := .int .i64 (e : Int)) rfl rfl rfl) (fun a hF => ?_)
        refine vp_y hF rfl rfl rfl rfl (by decide) _ (fun x hx => y_assign rfl rfl) (fun a hF => ?_)
        refine vp_y hF rfl rfl rfl rfl (by decide) _ (fun x hx => y_assign rfl rfl) (fun a hF => ?_)
        refine vp_y hF rfl rfl rfl rfl (by decide) _ (fun x hx => y_assign rfl rfl) (fun a hF => ?_)
        refine vp_ly hF rfl rfl rfl rfl (by decide) _ (y_assign rfl rfl) (fun h => absurd h (by decide)) (fun a hF => ?_)
        refine plan_end ?_
        refine hK32 _ _ ?_; clear  hK32 K32
        apply wp_seq_k; intro K33 hK33
        refine wp_region_lit ?_
        refine vc_y hF rfl rfl (by decide) _ (y_move rfl rfl) (fun a hF => ?_)
        refine vc_y hF rfl rfl (by decide) _ (y_move rfl rfl) (fun a hF => ?_)
        refine vc_y hF rfl rfl (by decide) _ (y_cmp rfl rfl rfl rfl (eql_t rfl)) (fun a hF => ?_)
        refine vc_y hF rfl rfl (by decide) _ (y_assign rfl rfl) (fun a hF => ?_)
        refine vc_nil ?_
        refine hK33 _ _ ?_; clear  hK33 K33
        apply wp_seq_k; intro K34 hK34
        refine wp_region_lit ?_
        refine vc_y hF rfl rfl (by decide) _ (y_move rfl rfl) (fun a hF => ?_)
        refine vc_y hF rfl rfl (by decide) _ (y_assign rfl rfl) (fun a hF => ?_)
        refine vc_nil ?_
        refine hK34 _ _ ?_; clear  hK34 K34
        refine wp_region_lit ?_
        refine vc_y hF rfl rfl (by decide) _ (y_move rfl rfl) (fun a hF => ?_)
        refine vc_y hF rfl rfl (by decide) _ (y_assign rfl rfl) (fun a hF => ?_)
        refine vc_nil ?_
        have hA36 : Hp w0 ([row xb 106 [.pointer (some ⟨rb, 0, none⟩), .slice LA (l.length - p) LC, .int .i64 (y : Int)]] :: [row rb 95 [.slice A l.length c, .int .i64 (p' : Int), .int .i64 (y' : Int)]] :: X :: (row sb 68 (bv :: .slice (some ⟨bR, pR, none⟩) qs.length cR :: cs0) :: Z0) :: (((qs.map (rxS l)).eraseIdx i).flatten) :: XR :: [row b1 38 [.int .i64 o.kind, .int .i64 o.at_, .int .u64 (o.v.n : Int), .int .i64 o.many, .bool o.v.b, .slice o.dA o.v.ds.length o.dC, .slice o.qA o.ps.length o.qC, .slice o.pA o.v.p.length o.pC, strV o.v.s, .slice o.sA o.v.ss.length o.sC, .int .i64 o.most, .int .i64 o.each]] :: R) w34 := Hp.ord [[row rb 95 [.slice A l.length c, .int .i64 (p' : Int), .int .i64 (y' : Int)]], X, [row xb 106 [.pointer (some ⟨rb, 0, none⟩), .slice LA (l.length - p) LC, .int .i64 (y : Int)]], (((qs.map (rxS l)).eraseIdx i).flatten), (row sb 68 (bv :: .slice (some ⟨bR, pR, none⟩) qs.length cR :: cs0) :: Z0), XR, [row b1 38 [.int .i64 o.kind, .int .i64 o.at_, .int .u64 (o.v.n : Int), .int .i64 o.many, .bool o.v.b, .slice o.dA o.v.ds.length o.dC, .slice o.qA o.ps.length o.qC, .slice o.pA o.v.p.length o.pC, strV o.v.s, .slice o.sA o.v.ss.length o.sC, .int .i64 o.most, .int .i64 o.each]]] R [2, 0, 1, 4, 3, 5, 6] hA35 rfl
        exact tail2 _ _ p' y' k e _ hst hS (hF.keep [7, 8, 9, 0, 5] rfl) hA36
      · refine vc_falseB hF rfl (eql_f (by omega)) ?_
        apply wp_seq_k; intro K35 hK35
        refine wp_region_lit ?_
        refine vc_y hF rfl rfl (by decide) _ (y_cmp rfl rfl rfl rfl rfl) (fun a hF => ?_)
        refine vc_y hF rfl rfl (by decide) _ (y_assign rfl rfl) (fun a hF => ?_)
        refine vc_nil ?_
        refine hK35 _ _ ?_; clear  hK35 K35
        by_cases k2 : o.kind = 2
        · refine vc_trueB hF rfl (eql_t (by omega)) ?_
          apply wp_skip
          refine hK30 _ _ ?_; clear  hK30 K30
          refine vc_trueB hF rfl (eql_t (by omega)) ?_
          apply wp_seq_k; intro K36 hK36
          refine wp_region_plan 15 [6,15] [0,1,2,3,4,5,6,7,8,9,10,11,12,13,14,15] (fun x => Hq w0 ([row xb 106 [.pointer (some ⟨rb, 0, none⟩), .slice LA (l.length - p) LC, .int .i64 (y : Int)]] :: (((qs.map (rxS l)).eraseIdx i).flatten) :: (row sb 68 (bv :: .slice (some ⟨bR, pR, none⟩) qs.length cR :: cs0) :: Z0) :: XR :: [row b1 38 [.int .i64 o.kind, .int .i64 o.at_, .int .u64 (o.v.n : Int), .int .i64 o.many, .bool o.v.b, .slice o.dA o.v.ds.length o.dC, .slice o.qA o.ps.length o.qC, .slice o.pA o.v.p.length o.pC, strV o.v.s, .slice o.sA o.v.ss.length o.sC, .int .i64 o.most, .int .i64 o.each]] :: R) x) (by kernel_rfl) (by kernel_rfl) (Hq.drew (Hp.qp [[row xb 106 [.pointer (some ⟨rb, 0, none⟩), .slice LA (l.length - p) LC, .int .i64 (y : Int)]], [row rb 95 [.slice A l.length c, .int .i64 (p : Int), .int .i64 (y : Int)]], X, (((qs.map (rxS l)).eraseIdx i).flatten), (row sb 68 (bv :: .slice (some ⟨bR, pR, none⟩) qs.length cR :: cs0) :: Z0), XR, [row b1 38 [.int .i64 o.kind, .int .i64 o.at_, .int .u64 (o.v.n : Int), .int .i64 o.many, .bool o.v.b, .slice o.dA o.v.ds.length o.dC, .slice o.qA o.ps.length o.qC, .slice o.pA o.v.p.length o.pC, strV o.v.s, .slice o.sA o.v.ss.length o.sC, .int .i64 o.most, .int .i64 o.each]]] R [0, 3, 4, 5, 6] hA)) ?_
          have hA37 := Hl.drew hA
          refine vp_y hF rfl rfl rfl rfl (by decide) _ (fun x hx => y_move rfl rfl) (fun a hF => ?_)
          refine vp_y hF rfl rfl rfl rfl (by decide) _ (fun x hx => y_nilCheck rfl rfl) (fun a hF => ?_)
          refine vp_y hF rfl rfl rfl rfl (by decide) _ (fun x hx => y_field rfl Try.underlying106 rfl sz53_rx (by decide) rfl (rfl : (⟨_, 0 + _, none⟩ : Addr) = ⟨_, 0, none⟩)) (fun a hF => ?_)
          refine vp_y hF rfl rfl rfl rfl (by decide) _ (fun x hx => y_ld rfl hx rfl 0 rfl rfl nr53_rx) (fun a hF => ?_)
          refine vp_y hF rfl rfl rfl rfl (by decide) _ (fun x hx => y_move rfl rfl) (fun a hF => ?_)
          refine vp_y hF rfl rfl rfl rfl (by decide) _ (fun x hx => y_ldRow (new := opC o) rfl hx rfl 4 rfl rw38_rx (Nat.le_of_ble_eq_true rfl) rfl) (fun a hF => ?_)
          have hA38 : Hp w0 ([row rb 95 [.slice A l.length c, .int .i64 (p : Int), .int .i64 (y : Int)]] :: X :: [row xb 106 [.pointer (some ⟨rb, 0, none⟩), .slice LA (l.length - p) LC, .int .i64 (y : Int)]] :: (((qs.map (rxS l)).eraseIdx i).flatten) :: (row sb 68 (bv :: .slice (some ⟨bR, pR, none⟩) qs.length cR :: cs0) :: Z0) :: XR :: [row b1 38 [.int .i64 o.kind, .int .i64 o.at_, .int .u64 (o.v.n : Int), .int .i64 o.many, .bool o.v.b, .slice o.dA o.v.ds.length o.dC, .slice o.qA o.ps.length o.qC, .slice o.pA o.v.p.length o.pC, strV o.v.s, .slice o.sA o.v.ss.length o.sC, .int .i64 o.most, .int .i64 o.each]] :: R) x.drew := Hp.ord [[row xb 106 [.pointer (some ⟨rb, 0, none⟩), .slice LA (l.length - p) LC, .int .i64 (y : Int)]], [row rb 95 [.slice A l.length c, .int .i64 (p : Int), .int .i64 (y : Int)]], X, (((qs.map (rxS l)).eraseIdx i).flatten), (row sb 68 (bv :: .slice (some ⟨bR, pR, none⟩) qs.length cR :: cs0) :: Z0), XR, [row b1 38 [.int .i64 o.kind, .int .i64 o.at_, .int .u64 (o.v.n : Int), .int .i64 o.many, .bool o.v.b, .slice o.dA o.v.ds.length o.dC, .slice o.qA o.ps.length o.qC, .slice o.pA o.v.p.length o.pC, strV o.v.s, .slice o.sA o.v.ss.length o.sC, .int .i64 o.most, .int .i64 o.each]]] R [1, 2, 0, 3, 4, 5, 6] hA37 rfl
          refine vp_l rfl rfl rfl (fun K hK => ws_call hF rfl (by decide) cl60_rx rfl rfl ?_)
          with_reducible refine (rx_takesN w0 _ ([row xb 106 [.pointer (some ⟨rb, 0, none⟩), .slice LA (l.length - p) LC, .int .i64 (y : Int)]] :: (((qs.map (rxS l)).eraseIdx i).flatten) :: (row sb 68 (bv :: .slice (some ⟨bR, pR, none⟩) qs.length cR :: cs0) :: Z0) :: XR :: [row b1 38 [.int .i64 o.kind, .int .i64 o.at_, .int .u64 (o.v.n : Int), .int .i64 o.many, .bool o.v.b, .slice o.dA o.v.ds.length o.dC, .slice o.qA o.ps.length o.qC, .slice o.pA o.v.p.length o.pC, strV o.v.s, .slice o.sA o.v.ss.length o.sC, .int .i64 o.most, .int .i64 o.each]] :: R) rb A l c p y X o LB m LD hm (hLB0.mono (subC (subC (subC (subC (subC (sub0))))))) hO hA38 hp hl ).mono ?_
          rintro e' w39 ⟨z, k, e, p', y', rfl, hst, hA40⟩
          refine ⟨_, rfl, fun a hF => hK _ _ (fun _ => ?_) ?_⟩
          · exact Hp.qp [[row rb 95 [.slice A l.length c, .int .i64 (p' : Int), .int .i64 (y' : Int)]], X, [row xb 106 [.pointer (some ⟨rb, 0, none⟩), .slice LA (l.length - p) LC, .int .i64 (y : Int)]], (((qs.map (rxS l)).eraseIdx i).flatten), (row sb 68 (bv :: .slice (some ⟨bR, pR, none⟩) qs.length cR :: cs0) :: Z0), XR, [row b1 38 [.int .i64 o.kind, .int .i64 o.at_, .int .u64 (o.v.n : Int), .int .i64 o.many, .bool o.v.b, .slice o.dA o.v.ds.length o.dC, .slice o.qA o.ps.length o.qC, .slice o.pA o.v.p.length o.pC, strV o.v.s, .slice o.sA o.v.ss.length o.sC, .int .i64 o.most, .int .i64 o.each]]] R [2, 3, 4, 5, 6] hA40
          clear hK K
          replace hA40 : Hp w0 ([row rb 95 [.slice A l.length c, .int .i64 (p' : Int), .int .i64 (y' : Int)]] :: X :: [row xb 106 [.pointer (some ⟨rb, 0, none⟩), .slice LA (l.length - p) LC, .int .i64 (y : Int)]] :: (((qs.map (rxS l)).eraseIdx i).flatten) :: (row sb 68 (bv :: .slice (some ⟨bR, pR, none⟩) qs.length cR :: cs0) :: Z0) :: XR :: [row b1 38 [.int .i64 o.kind, .int .i64 o.at_, .int .u64 (o.v.n : Int), .int .i64 o.many, .bool o.v.b, .slice o.dA o.v.ds.length o.dC, .slice o.qA o.ps.length o.qC, .slice o.pA o.v.p.length o.pC, strV o.v.s, .slice o.sA o.v.ss.length o.sC, .int .i64 o.most, .int .i64 o.each]] :: R) w39 := hA40
          refine vp_y hF rfl rfl rfl rfl (by decide) _ (fun x hx => y_move rfl rfl) (fun a hF => ?_)
          refine vp_y hF rfl rfl rfl rfl (by decide) _ (fun x hx => y_extract (v := .int .u64 z) rfl rfl rfl) (fun a hF => ?_)
          refine vp_y hF rfl rfl rfl rfl (by decide) _ (fun x hx => y_extract (v := .int .u64 z) rfl rfl rfl) (fun a hF => ?_)
          refine vp_y hF rfl rfl rfl rfl (by decide) _ (fun x hx => y_extract (v := .int .i64 (k : Int)) rfl rfl rfl) (fun a hF => ?_)
          refine vp_y hF rfl rfl rfl rfl (by decide) _ (fun x hx => y_extract (v := .int .i64 (e : Int)) rfl rfl rfl) (fun a hF => ?_)
          refine vp_y hF rfl rfl rfl rfl (by decide) _ (fun x hx => y_assign rfl rfl) (fun a hF => ?_)
          refine vp_y hF rfl rfl rfl rfl (by decide) _ (fun x hx => y_assign rfl rfl) (fun a hF => ?_)
          refine vp_y hF rfl rfl rfl rfl (by decide) _ (fun x hx => y_assign rfl rfl) (fun a hF => ?_)
          refine vp_ly hF rfl rfl rfl rfl (by decide) _ (y_assign rfl rfl) (fun h => absurd h (by decide)) (fun a hF => ?_)
          refine plan_end ?_
          refine hK36 _ _ ?_; clear  hK36 K36
          apply wp_seq_k; intro K37 hK37
          refine wp_region_lit ?_
          refine vc_y hF rfl rfl (by decide) _ (y_move rfl rfl) (fun a hF => ?_)
          refine vc_y hF rfl rfl (by decide) _ (y_move rfl rfl) (fun a hF => ?_)
          refine vc_y hF rfl rfl (by decide) _ (y_cmp rfl rfl rfl rfl (eql_t rfl)) (fun a hF => ?_)
          refine vc_y hF rfl rfl (by decide) _ (y_assign rfl rfl) (fun a hF => ?_)
          refine vc_nil ?_
          refine hK37 _ _ ?_; clear  hK37 K37
          apply wp_seq_k; intro K38 hK38
          refine wp_region_lit ?_
          refine vc_y hF rfl rfl (by decide) _ (y_move rfl rfl) (fun a hF => ?_)
          refine vc_y hF rfl rfl (by decide) _ (y_assign rfl rfl) (fun a hF => ?_)
          refine vc_nil ?_
          refine hK38 _ _ ?_; clear  hK38 K38
          refine wp_region_lit ?_
          refine vc_y hF rfl rfl (by decide) _ (y_move rfl rfl) (fun a hF => ?_)
          refine vc_y hF rfl rfl (by decide) _ (y_assign rfl rfl) (fun a hF => ?_)
          refine vc_nil ?_
          have hA41 : Hp w0 ([row xb 106 [.pointer (some ⟨rb, 0, none⟩), .slice LA (l.length - p) LC, .int .i64 (y : Int)]] :: [row rb 95 [.slice A l.length c, .int .i64 (p' : Int), .int .i64 (y' : Int)]] :: X :: (row sb 68 (bv :: .slice (some ⟨bR, pR, none⟩) qs.length cR :: cs0) :: Z0) :: (((qs.map (rxS l)).eraseIdx i).flatten) :: XR :: [row b1 38 [.int .i64 o.kind, .int .i64 o.at_, .int .u64 (o.v.n : Int), .int .i64 o.many, .bool o.v.b, .slice o.dA o.v.ds.length o.dC, .slice o.qA o.ps.length o.qC, .slice o.pA o.v.p.length o.pC, strV o.v.s, .slice o.sA o.v.ss.length o.sC, .int .i64 o.most, .int .i64 o.each]] :: R) w39 := Hp.ord [[row rb 95 [.slice A l.length c, .int .i64 (p' : Int), .int .i64 (y' : Int)]], X, [row xb 106 [.pointer (some ⟨rb, 0, none⟩), .slice LA (l.length - p) LC, .int .i64 (y : Int)]], (((qs.map (rxS l)).eraseIdx i).flatten), (row sb 68 (bv :: .slice (some ⟨bR, pR, none⟩) qs.length cR :: cs0) :: Z0), XR, [row b1 38 [.int .i64 o.kind, .int .i64 o.at_, .int .u64 (o.v.n : Int), .int .i64 o.many, .bool o.v.b, .slice o.dA o.v.ds.length o.dC, .slice o.qA o.ps.length o.qC, .slice o.pA o.v.p.length o.pC, strV o.v.s, .slice o.sA o.v.ss.length o.sC, .int .i64 o.most, .int .i64 o.each]]] R [2, 0, 1, 4, 3, 5, 6] hA40 rfl
          exact tail2 _ _ p' y' k e _ hst hS (hF.keep [7, 8, 9, 0, 5] rfl) hA41
        · refine vc_falseB hF rfl (eql_f (by omega)) ?_
          apply wp_seq_k; intro K39 hK39
          refine wp_region_lit ?_
          refine vc_y hF rfl rfl (by decide) _ (y_cmp rfl rfl rfl rfl rfl) (fun a hF => ?_)
          refine vc_y hF rfl rfl (by decide) _ (y_assign rfl rfl) (fun a hF => ?_)
          refine vc_nil ?_
          refine hK39 _ _ ?_; clear  hK39 K39
          by_cases k3 : o.kind = 3
          · refine vc_trueB hF rfl (eql_t (by omega)) ?_
            apply wp_skip
            refine hK30 _ _ ?_; clear  hK30 K30
            refine vc_trueB hF rfl (eql_t (by omega)) ?_
            apply wp_seq_k; intro K40 hK40
            refine wp_region_plan 15 [6,15] [0,1,2,3,4,5,6,7,8,9,10,11,12,13,14,15] (fun x => Hq w0 ([row xb 106 [.pointer (some ⟨rb, 0, none⟩), .slice LA (l.length - p) LC, .int .i64 (y : Int)]] :: (((qs.map (rxS l)).eraseIdx i).flatten) :: (row sb 68 (bv :: .slice (some ⟨bR, pR, none⟩) qs.length cR :: cs0) :: Z0) :: XR :: [row b1 38 [.int .i64 o.kind, .int .i64 o.at_, .int .u64 (o.v.n : Int), .int .i64 o.many, .bool o.v.b, .slice o.dA o.v.ds.length o.dC, .slice o.qA o.ps.length o.qC, .slice o.pA o.v.p.length o.pC, strV o.v.s, .slice o.sA o.v.ss.length o.sC, .int .i64 o.most, .int .i64 o.each]] :: R) x) (by kernel_rfl) (by kernel_rfl) (Hq.drew (Hp.qp [[row xb 106 [.pointer (some ⟨rb, 0, none⟩), .slice LA (l.length - p) LC, .int .i64 (y : Int)]], [row rb 95 [.slice A l.length c, .int .i64 (p : Int), .int .i64 (y : Int)]], X, (((qs.map (rxS l)).eraseIdx i).flatten), (row sb 68 (bv :: .slice (some ⟨bR, pR, none⟩) qs.length cR :: cs0) :: Z0), XR, [row b1 38 [.int .i64 o.kind, .int .i64 o.at_, .int .u64 (o.v.n : Int), .int .i64 o.many, .bool o.v.b, .slice o.dA o.v.ds.length o.dC, .slice o.qA o.ps.length o.qC, .slice o.pA o.v.p.length o.pC, strV o.v.s, .slice o.sA o.v.ss.length o.sC, .int .i64 o.most, .int .i64 o.each]]] R [0, 3, 4, 5, 6] hA)) ?_
            have hA42 := Hl.drew hA
            refine vp_y hF rfl rfl rfl rfl (by decide) _ (fun x hx => y_move rfl rfl) (fun a hF => ?_)
            refine vp_y hF rfl rfl rfl rfl (by decide) _ (fun x hx => y_nilCheck rfl rfl) (fun a hF => ?_)
            refine vp_y hF rfl rfl rfl rfl (by decide) _ (fun x hx => y_field rfl Try.underlying106 rfl sz53_rx (by decide) rfl (rfl : (⟨_, 0 + _, none⟩ : Addr) = ⟨_, 0, none⟩)) (fun a hF => ?_)
            refine vp_y hF rfl rfl rfl rfl (by decide) _ (fun x hx => y_ld rfl hx rfl 0 rfl rfl nr53_rx) (fun a hF => ?_)
            refine vp_y hF rfl rfl rfl rfl (by decide) _ (fun x hx => y_move rfl rfl) (fun a hF => ?_)
            refine vp_y hF rfl rfl rfl rfl (by decide) _ (fun x hx => y_ldRow (new := opC o) rfl hx rfl 4 rfl rw38_rx (Nat.le_of_ble_eq_true rfl) rfl) (fun a hF => ?_)
            have hA43 : Hp w0 ([row rb 95 [.slice A l.length c, .int .i64 (p : Int), .int .i64 (y : Int)]] :: X :: [row xb 106 [.pointer (some ⟨rb, 0, none⟩), .slice LA (l.length - p) LC, .int .i64 (y : Int)]] :: (((qs.map (rxS l)).eraseIdx i).flatten) :: (row sb 68 (bv :: .slice (some ⟨bR, pR, none⟩) qs.length cR :: cs0) :: Z0) :: XR :: [row b1 38 [.int .i64 o.kind, .int .i64 o.at_, .int .u64 (o.v.n : Int), .int .i64 o.many, .bool o.v.b, .slice o.dA o.v.ds.length o.dC, .slice o.qA o.ps.length o.qC, .slice o.pA o.v.p.length o.pC, strV o.v.s, .slice o.sA o.v.ss.length o.sC, .int .i64 o.most, .int .i64 o.each]] :: R) x.drew := Hp.ord [[row xb 106 [.pointer (some ⟨rb, 0, none⟩), .slice LA (l.length - p) LC, .int .i64 (y : Int)]], [row rb 95 [.slice A l.length c, .int .i64 (p : Int), .int .i64 (y : Int)]], X, (((qs.map (rxS l)).eraseIdx i).flatten), (row sb 68 (bv :: .slice (some ⟨bR, pR, none⟩) qs.length cR :: cs0) :: Z0), XR, [row b1 38 [.int .i64 o.kind, .int .i64 o.at_, .int .u64 (o.v.n : Int), .int .i64 o.many, .bool o.v.b, .slice o.dA o.v.ds.length o.dC, .slice o.qA o.ps.length o.qC, .slice o.pA o.v.p.length o.pC, strV o.v.s, .slice o.sA o.v.ss.length o.sC, .int .i64 o.most, .int .i64 o.each]]] R [1, 2, 0, 3, 4, 5, 6] hA42 rfl
            refine vp_l rfl rfl rfl (fun K hK => ws_call hF rfl (by decide) cl60_rx rfl rfl ?_)
            with_reducible refine (rx_takesN w0 _ ([row xb 106 [.pointer (some ⟨rb, 0, none⟩), .slice LA (l.length - p) LC, .int .i64 (y : Int)]] :: (((qs.map (rxS l)).eraseIdx i).flatten) :: (row sb 68 (bv :: .slice (some ⟨bR, pR, none⟩) qs.length cR :: cs0) :: Z0) :: XR :: [row b1 38 [.int .i64 o.kind, .int .i64 o.at_, .int .u64 (o.v.n : Int), .int .i64 o.many, .bool o.v.b, .slice o.dA o.v.ds.length o.dC, .slice o.qA o.ps.length o.qC, .slice o.pA o.v.p.length o.pC, strV o.v.s, .slice o.sA o.v.ss.length o.sC, .int .i64 o.most, .int .i64 o.each]] :: R) rb A l c p y X o LB m LD hm (hLB0.mono (subC (subC (subC (subC (subC (sub0))))))) hO hA43 hp hl ).mono ?_
            rintro e' w44 ⟨z, k, e, p', y', rfl, hst, hA45⟩
            refine ⟨_, rfl, fun a hF => hK _ _ (fun _ => ?_) ?_⟩
            · exact Hp.qp [[row rb 95 [.slice A l.length c, .int .i64 (p' : Int), .int .i64 (y' : Int)]], X, [row xb 106 [.pointer (some ⟨rb, 0, none⟩), .slice LA (l.length - p) LC, .int .i64 (y : Int)]], (((qs.map (rxS l)).eraseIdx i).flatten), (row sb 68 (bv :: .slice (some ⟨bR, pR, none⟩) qs.length cR :: cs0) :: Z0), XR, [row b1 38 [.int .i64 o.kind, .int .i64 o.at_, .int .u64 (o.v.n : Int), .int .i64 o.many, .bool o.v.b, .slice o.dA o.v.ds.length o.dC, .slice o.qA o.ps.length o.qC, .slice o.pA o.v.p.length o.pC, strV o.v.s, .slice o.sA o.v.ss.length o.sC, .int .i64 o.most, .int .i64 o.each]]] R [2, 3, 4, 5, 6] hA45
            clear hK K
            replace hA45 : Hp w0 ([row rb 95 [.slice A l.length c, .int .i64 (p' : Int), .int .i64 (y' : Int)]] :: X :: [row xb 106 [.pointer (some ⟨rb, 0, none⟩), .slice LA (l.length - p) LC, .int .i64 (y : Int)]] :: (((qs.map (rxS l)).eraseIdx i).flatten) :: (row sb 68 (bv :: .slice (some ⟨bR, pR, none⟩) qs.length cR :: cs0) :: Z0) :: XR :: [row b1 38 [.int .i64 o.kind, .int .i64 o.at_, .int .u64 (o.v.n : Int), .int .i64 o.many, .bool o.v.b, .slice o.dA o.v.ds.length o.dC, .slice o.qA o.ps.length o.qC, .slice o.pA o.v.p.length o.pC, strV o.v.s, .slice o.sA o.v.ss.length o.sC, .int .i64 o.most, .int .i64 o.each]] :: R) w44 := hA45
            refine vp_y hF rfl rfl rfl rfl (by decide) _ (fun x hx => y_move rfl rfl) (fun a hF => ?_)
            refine vp_y hF rfl rfl rfl rfl (by decide) _ (fun x hx => y_extract (v := .int .u64 z) rfl rfl rfl) (fun a hF => ?_)
            refine vp_y hF rfl rfl rfl rfl (by decide) _ (fun x hx => y_extract (v := .int .u64 z) rfl rfl rfl) (fun a hF => ?_)
            refine vp_y hF rfl rfl rfl rfl (by decide) _ (fun x hx => y_extract (v := .int .i64 (k : Int)) rfl rfl rfl) (fun a hF => ?_)
            refine vp_y hF rfl rfl rfl rfl (by decide) _ (fun x hx => y_extract (v := .int .i64 (e : Int)) rfl rfl rfl) (fun a hF => ?_)
            refine vp_y hF rfl rfl rfl rfl (by decide) _ (fun x hx => y_assign rfl rfl) (fun a hF => ?_)
            refine vp_y hF rfl rfl rfl rfl (by decide) _ (fun x hx => y_assign rfl rfl) (fun a hF => ?_)
            refine vp_y hF rfl rfl rfl rfl (by decide) _ (fun x hx => y_assign rfl rfl) (fun a hF => ?_)
            refine vp_ly hF rfl rfl rfl rfl (by decide) _ (y_assign rfl rfl) (fun h => absurd h (by decide)) (fun a hF => ?_)
            refine plan_end ?_
            refine hK40 _ _ ?_; clear  hK40 K40
            apply wp_seq_k; intro K41 hK41
            refine wp_region_lit ?_
            refine vc_y hF rfl rfl (by decide) _ (y_move rfl rfl) (fun a hF => ?_)
            refine vc_y hF rfl rfl (by decide) _ (y_move rfl rfl) (fun a hF => ?_)
            refine vc_y hF rfl rfl (by decide) _ (y_cmp rfl rfl rfl rfl (eql_t rfl)) (fun a hF => ?_)
            refine vc_y hF rfl rfl (by decide) _ (y_assign rfl rfl) (fun a hF => ?_)
            refine vc_nil ?_
            refine hK41 _ _ ?_; clear  hK41 K41
            apply wp_seq_k; intro K42 hK42
            refine wp_region_lit ?_
            refine vc_y hF rfl rfl (by decide) _ (y_move rfl rfl) (fun a hF => ?_)
            refine vc_y hF rfl rfl (by decide) _ (y_assign rfl rfl) (fun a hF => ?_)
            refine vc_nil ?_
            refine hK42 _ _ ?_; clear  hK42 K42
            refine wp_region_lit ?_
            refine vc_y hF rfl rfl (by decide) _ (y_move rfl rfl) (fun a hF => ?_)
            refine vc_y hF rfl rfl (by decide) _ (y_assign rfl rfl) (fun a hF => ?_)
            refine vc_nil ?_
            have hA46 : Hp w0 ([row xb 106 [.pointer (some ⟨rb, 0, none⟩), .slice LA (l.length - p) LC, .int .i64 (y : Int)]] :: [row rb 95 [.slice A l.length c, .int .i64 (p' : Int), .int .i64 (y' : Int)]] :: X :: (row sb 68 (bv :: .slice (some ⟨bR, pR, none⟩) qs.length cR :: cs0) :: Z0) :: (((qs.map (rxS l)).eraseIdx i).flatten) :: XR :: [row b1 38 [.int .i64 o.kind, .int .i64 o.at_, .int .u64 (o.v.n : Int), .int .i64 o.many, .bool o.v.b, .slice o.dA o.v.ds.length o.dC, .slice o.qA o.ps.length o.qC, .slice o.pA o.v.p.length o.pC, strV o.v.s, .slice o.sA o.v.ss.length o.sC, .int .i64 o.most, .int .i64 o.each]] :: R) w44 := Hp.ord [[row rb 95 [.slice A l.length c, .int .i64 (p' : Int), .int .i64 (y' : Int)]], X, [row xb 106 [.pointer (some ⟨rb, 0, none⟩), .slice LA (l.length - p) LC, .int .i64 (y : Int)]], (((qs.map (rxS l)).eraseIdx i).flatten), (row sb 68 (bv :: .slice (some ⟨bR, pR, none⟩) qs.length cR :: cs0) :: Z0), XR, [row b1 38 [.int .i64 o.kind, .int .i64 o.at_, .int .u64 (o.v.n : Int), .int .i64 o.many, .bool o.v.b, .slice o.dA o.v.ds.length o.dC, .slice o.qA o.ps.length o.qC, .slice o.pA o.v.p.length o.pC, strV o.v.s, .slice o.sA o.v.ss.length o.sC, .int .i64 o.most, .int .i64 o.each]]] R [2, 0, 1, 4, 3, 5, 6] hA45 rfl
            exact tail2 _ _ p' y' k e _ hst hS (hF.keep [7, 8, 9, 0, 5] rfl) hA46
          · refine vc_falseB hF rfl (eql_f (by omega)) ?_
            apply wp_seq_k; intro K43 hK43
            refine wp_region_lit ?_
            refine vc_y hF rfl rfl (by decide) _ (y_cmp rfl rfl rfl rfl rfl) (fun a hF => ?_)
            refine vc_y hF rfl rfl (by decide) _ (y_assign rfl rfl) (fun a hF => ?_)
            refine vc_nil ?_
            refine hK43 _ _ ?_; clear  hK43 K43
            by_cases k4 : o.kind = 4
            · refine vc_trueB hF rfl (eql_t (by omega)) ?_
              apply wp_skip
              refine hK30 _ _ ?_; clear  hK30 K30
              refine vc_trueB hF rfl (eql_t (by omega)) ?_
              apply wp_seq_k; intro K44 hK44
              refine wp_region_plan 15 [6,15] [0,1,2,3,4,5,6,7,8,9,10,11,12,13,14,15] (fun x => Hq w0 ([row xb 106 [.pointer (some ⟨rb, 0, none⟩), .slice LA (l.length - p) LC, .int .i64 (y : Int)]] :: (((qs.map (rxS l)).eraseIdx i).flatten) :: (row sb 68 (bv :: .slice (some ⟨bR, pR, none⟩) qs.length cR :: cs0) :: Z0) :: XR :: [row b1 38 [.int .i64 o.kind, .int .i64 o.at_, .int .u64 (o.v.n : Int), .int .i64 o.many, .bool o.v.b, .slice o.dA o.v.ds.length o.dC, .slice o.qA o.ps.length o.qC, .slice o.pA o.v.p.length o.pC, strV o.v.s, .slice o.sA o.v.ss.length o.sC, .int .i64 o.most, .int .i64 o.each]] :: R) x) (by kernel_rfl) (by kernel_rfl) (Hq.drew (Hp.qp [[row xb 106 [.pointer (some ⟨rb, 0, none⟩), .slice LA (l.length - p) LC, .int .i64 (y : Int)]], [row rb 95 [.slice A l.length c, .int .i64 (p : Int), .int .i64 (y : Int)]], X, (((qs.map (rxS l)).eraseIdx i).flatten), (row sb 68 (bv :: .slice (some ⟨bR, pR, none⟩) qs.length cR :: cs0) :: Z0), XR, [row b1 38 [.int .i64 o.kind, .int .i64 o.at_, .int .u64 (o.v.n : Int), .int .i64 o.many, .bool o.v.b, .slice o.dA o.v.ds.length o.dC, .slice o.qA o.ps.length o.qC, .slice o.pA o.v.p.length o.pC, strV o.v.s, .slice o.sA o.v.ss.length o.sC, .int .i64 o.most, .int .i64 o.each]]] R [0, 3, 4, 5, 6] hA)) ?_
              have hA47 := Hl.drew hA
              refine vp_y hF rfl rfl rfl rfl (by decide) _ (fun x hx => y_move rfl rfl) (fun a hF => ?_)
              refine vp_y hF rfl rfl rfl rfl (by decide) _ (fun x hx => y_nilCheck rfl rfl) (fun a hF => ?_)
              refine vp_y hF rfl rfl rfl rfl (by decide) _ (fun x hx => y_field rfl Try.underlying106 rfl sz53_rx (by decide) rfl (rfl : (⟨_, 0 + _, none⟩ : Addr) = ⟨_, 0, none⟩)) (fun a hF => ?_)
              refine vp_y hF rfl rfl rfl rfl (by decide) _ (fun x hx => y_ld rfl hx rfl 0 rfl rfl nr53_rx) (fun a hF => ?_)
              refine vp_y hF rfl rfl rfl rfl (by decide) _ (fun x hx => y_move rfl rfl) (fun a hF => ?_)
              refine vp_y hF rfl rfl rfl rfl (by decide) _ (fun x hx => y_ldRow (new := opC o) rfl hx rfl 4 rfl rw38_rx (Nat.le_of_ble_eq_true rfl) rfl) (fun a hF => ?_)
              have hA48 : Hp w0 ([row rb 95 [.slice A l.length c, .int .i64 (p : Int), .int .i64 (y : Int)]] :: X :: [row xb 106 [.pointer (some ⟨rb, 0, none⟩), .slice LA (l.length - p) LC, .int .i64 (y : Int)]] :: (((qs.map (rxS l)).eraseIdx i).flatten) :: (row sb 68 (bv :: .slice (some ⟨bR, pR, none⟩) qs.length cR :: cs0) :: Z0) :: XR :: [row b1 38 [.int .i64 o.kind, .int .i64 o.at_, .int .u64 (o.v.n : Int), .int .i64 o.many, .bool o.v.b, .slice o.dA o.v.ds.length o.dC, .slice o.qA o.ps.length o.qC, .slice o.pA o.v.p.length o.pC, strV o.v.s, .slice o.sA o.v.ss.length o.sC, .int .i64 o.most, .int .i64 o.each]] :: R) x.drew := Hp.ord [[row xb 106 [.pointer (some ⟨rb, 0, none⟩), .slice LA (l.length - p) LC, .int .i64 (y : Int)]], [row rb 95 [.slice A l.length c, .int .i64 (p : Int), .int .i64 (y : Int)]], X, (((qs.map (rxS l)).eraseIdx i).flatten), (row sb 68 (bv :: .slice (some ⟨bR, pR, none⟩) qs.length cR :: cs0) :: Z0), XR, [row b1 38 [.int .i64 o.kind, .int .i64 o.at_, .int .u64 (o.v.n : Int), .int .i64 o.many, .bool o.v.b, .slice o.dA o.v.ds.length o.dC, .slice o.qA o.ps.length o.qC, .slice o.pA o.v.p.length o.pC, strV o.v.s, .slice o.sA o.v.ss.length o.sC, .int .i64 o.most, .int .i64 o.each]]] R [1, 2, 0, 3, 4, 5, 6] hA47 rfl
              refine vp_l rfl rfl rfl (fun K hK => ws_call hF rfl (by decide) cl60_rx rfl rfl ?_)
              with_reducible refine (rx_takesN w0 _ ([row xb 106 [.pointer (some ⟨rb, 0, none⟩), .slice LA (l.length - p) LC, .int .i64 (y : Int)]] :: (((qs.map (rxS l)).eraseIdx i).flatten) :: (row sb 68 (bv :: .slice (some ⟨bR, pR, none⟩) qs.length cR :: cs0) :: Z0) :: XR :: [row b1 38 [.int .i64 o.kind, .int .i64 o.at_, .int .u64 (o.v.n : Int), .int .i64 o.many, .bool o.v.b, .slice o.dA o.v.ds.length o.dC, .slice o.qA o.ps.length o.qC, .slice o.pA o.v.p.length o.pC, strV o.v.s, .slice o.sA o.v.ss.length o.sC, .int .i64 o.most, .int .i64 o.each]] :: R) rb A l c p y X o LB m LD hm (hLB0.mono (subC (subC (subC (subC (subC (sub0))))))) hO hA48 hp hl ).mono ?_
              rintro e' w49 ⟨z, k, e, p', y', rfl, hst, hA50⟩
              refine ⟨_, rfl, fun a hF => hK _ _ (fun _ => ?_) ?_⟩
              · exact Hp.qp [[row rb 95 [.slice A l.length c, .int .i64 (p' : Int), .int .i64 (y' : Int)]], X, [row xb 106 [.pointer (some ⟨rb, 0, none⟩), .slice LA (l.length - p) LC, .int .i64 (y : Int)]], (((qs.map (rxS l)).eraseIdx i).flatten), (row sb 68 (bv :: .slice (some ⟨bR, pR, none⟩) qs.length cR :: cs0) :: Z0), XR, [row b1 38 [.int .i64 o.kind, .int .i64 o.at_, .int .u64 (o.v.n : Int), .int .i64 o.many, .bool o.v.b, .slice o.dA o.v.ds.length o.dC, .slice o.qA o.ps.length o.qC, .slice o.pA o.v.p.length o.pC, strV o.v.s, .slice o.sA o.v.ss.length o.sC, .int .i64 o.most, .int .i64 o.each]]] R [2, 3, 4, 5, 6] hA50
              clear hK K
              replace hA50 : Hp w0 ([row rb 95 [.slice A l.length c, .int .i64 (p' : Int), .int .i64 (y' : Int)]] :: X :: [row xb 106 [.pointer (some ⟨rb, 0, none⟩), .slice LA (l.length - p) LC, .int .i64 (y : Int)]] :: (((qs.map (rxS l)).eraseIdx i).flatten) :: (row sb 68 (bv :: .slice (some ⟨bR, pR, none⟩) qs.length cR :: cs0) :: Z0) :: XR :: [row b1 38 [.int .i64 o.kind, .int .i64 o.at_, .int .u64 (o.v.n : Int), .int .i64 o.many, .bool o.v.b, .slice o.dA o.v.ds.length o.dC, .slice o.qA o.ps.length o.qC, .slice o.pA o.v.p.length o.pC, strV o.v.s, .slice o.sA o.v.ss.length o.sC, .int .i64 o.most, .int .i64 o.each]] :: R) w49 := hA50
              refine vp_y hF rfl rfl rfl rfl (by decide) _ (fun x hx => y_move rfl rfl) (fun a hF => ?_)
              refine vp_y hF rfl rfl rfl rfl (by decide) _ (fun x hx => y_extract (v := .int .u64 z) rfl rfl rfl) (fun a hF => ?_)
              refine vp_y hF rfl rfl rfl rfl (by decide) _ (fun x hx => y_extract (v := .int .u64 z) rfl rfl rfl) (fun a hF => ?_)
              refine vp_y hF rfl rfl rfl rfl (by decide) _ (fun x hx => y_extract (v := .int .i64 (k : Int)) rfl rfl rfl) (fun a hF => ?_)
              refine vp_y hF rfl rfl rfl rfl (by decide) _ (fun x hx => y_extract (v := .int .i64 (e : Int)) rfl rfl rfl) (fun a hF => ?_)
              refine vp_y hF rfl rfl rfl rfl (by decide) _ (fun x hx => y_assign rfl rfl) (fun a hF => ?_)
              refine vp_y hF rfl rfl rfl rfl (by decide) _ (fun x hx => y_assign rfl rfl) (fun a hF => ?_)
              refine vp_y hF rfl rfl rfl rfl (by decide) _ (fun x hx => y_assign rfl rfl) (fun a hF => ?_)
              refine vp_ly hF rfl rfl rfl rfl (by decide) _ (y_assign rfl rfl) (fun h => absurd h (by decide)) (fun a hF => ?_)
              refine plan_end ?_
              refine hK44 _ _ ?_; clear  hK44 K44
              apply wp_seq_k; intro K45 hK45
              refine wp_region_lit ?_
              refine vc_y hF rfl rfl (by decide) _ (y_move rfl rfl) (fun a hF => ?_)
              refine vc_y hF rfl rfl (by decide) _ (y_move rfl rfl) (fun a hF => ?_)
              refine vc_y hF rfl rfl (by decide) _ (y_cmp rfl rfl rfl rfl (eql_t rfl)) (fun a hF => ?_)
              refine vc_y hF rfl rfl (by decide) _ (y_assign rfl rfl) (fun a hF => ?_)
              refine vc_nil ?_
              refine hK45 _ _ ?_; clear  hK45 K45
              apply wp_seq_k; intro K46 hK46
              refine wp_region_lit ?_
              refine vc_y hF rfl rfl (by decide) _ (y_move rfl rfl) (fun a hF => ?_)
              refine vc_y hF rfl rfl (by decide) _ (y_assign rfl rfl) (fun a hF => ?_)
              refine vc_nil ?_
              refine hK46 _ _ ?_; clear  hK46 K46
              refine wp_region_lit ?_
              refine vc_y hF rfl rfl (by decide) _ (y_move rfl rfl) (fun a hF => ?_)
              refine vc_y hF rfl rfl (by decide) _ (y_assign rfl rfl) (fun a hF => ?_)
              refine vc_nil ?_
              have hA51 : Hp w0 ([row xb 106 [.pointer (some ⟨rb, 0, none⟩), .slice LA (l.length - p) LC, .int .i64 (y : Int)]] :: [row rb 95 [.slice A l.length c, .int .i64 (p' : Int), .int .i64 (y' : Int)]] :: X :: (row sb 68 (bv :: .slice (some ⟨bR, pR, none⟩) qs.length cR :: cs0) :: Z0) :: (((qs.map (rxS l)).eraseIdx i).flatten) :: XR :: [row b1 38 [.int .i64 o.kind, .int .i64 o.at_, .int .u64 (o.v.n : Int), .int .i64 o.many, .bool o.v.b, .slice o.dA o.v.ds.length o.dC, .slice o.qA o.ps.length o.qC, .slice o.pA o.v.p.length o.pC, strV o.v.s, .slice o.sA o.v.ss.length o.sC, .int .i64 o.most, .int .i64 o.each]] :: R) w49 := Hp.ord [[row rb 95 [.slice A l.length c, .int .i64 (p' : Int), .int .i64 (y' : Int)]], X, [row xb 106 [.pointer (some ⟨rb, 0, none⟩), .slice LA (l.length - p) LC, .int .i64 (y : Int)]], (((qs.map (rxS l)).eraseIdx i).flatten), (row sb 68 (bv :: .slice (some ⟨bR, pR, none⟩) qs.length cR :: cs0) :: Z0), XR, [row b1 38 [.int .i64 o.kind, .int .i64 o.at_, .int .u64 (o.v.n : Int), .int .i64 o.many, .bool o.v.b, .slice o.dA o.v.ds.length o.dC, .slice o.qA o.ps.length o.qC, .slice o.pA o.v.p.length o.pC, strV o.v.s, .slice o.sA o.v.ss.length o.sC, .int .i64 o.most, .int .i64 o.each]]] R [2, 0, 1, 4, 3, 5, 6] hA50 rfl
              exact tail2 _ _ p' y' k e _ hst hS (hF.keep [7, 8, 9, 0, 5] rfl) hA51
            · refine vc_falseB hF rfl (eql_f (by omega)) ?_
              refine wp_region_lit ?_
              refine vc_y hF rfl rfl (by decide) _ (y_cmp rfl rfl rfl rfl rfl) (fun a hF => ?_)
              refine vc_y hF rfl rfl (by decide) _ (y_assign rfl rfl) (fun a hF => ?_)
              refine vc_nil ?_
              refine hK30 _ _ ?_; clear  hK30 K30
              by_cases k5 : o.kind = 5
              · refine vc_trueB hF rfl (eql_t (by omega)) ?_
                apply wp_seq_k; intro K47 hK47
                refine wp_region_plan 15 [6,15] [0,1,2,3,4,5,6,7,8,9,10,11,12,13,14,15] (fun x => Hq w0 ([row xb 106 [.pointer (some ⟨rb, 0, none⟩), .slice LA (l.length - p) LC, .int .i64 (y : Int)]] :: (((qs.map (rxS l)).eraseIdx i).flatten) :: (row sb 68 (bv :: .slice (some ⟨bR, pR, none⟩) qs.length cR :: cs0) :: Z0) :: XR :: [row b1 38 [.int .i64 o.kind, .int .i64 o.at_, .int .u64 (o.v.n : Int), .int .i64 o.many, .bool o.v.b, .slice o.dA o.v.ds.length o.dC, .slice o.qA o.ps.length o.qC, .slice o.pA o.v.p.length o.pC, strV o.v.s, .slice o.sA o.v.ss.length o.sC, .int .i64 o.most, .int .i64 o.each]] :: R) x) (by kernel_rfl) (by kernel_rfl) (Hq.drew (Hp.qp [[row xb 106 [.pointer (some ⟨rb, 0, none⟩), .slice LA (l.length - p) LC, .int .i64 (y : Int)]], [row rb 95 [.slice A l.length c, .int .i64 (p : Int), .int .i64 (y : Int)]], X, (((qs.map (rxS l)).eraseIdx i).flatten), (row sb 68 (bv :: .slice (some ⟨bR, pR, none⟩) qs.length cR :: cs0) :: Z0), XR, [row b1 38 [.int .i64 o.kind, .int .i64 o.at_, .int .u64 (o.v.n : Int), .int .i64 o.many, .bool o.v.b, .slice o.dA o.v.ds.length o.dC, .slice o.qA o.ps.length o.qC, .slice o.pA o.v.p.length o.pC, strV o.v.s, .slice o.sA o.v.ss.length o.sC, .int .i64 o.most, .int .i64 o.each]]] R [0, 3, 4, 5, 6] hA)) ?_
                have hA52 := Hl.drew hA
                refine vp_y hF rfl rfl rfl rfl (by decide) _ (fun x hx => y_move rfl rfl) (fun a hF => ?_)
                refine vp_y hF rfl rfl rfl rfl (by decide) _ (fun x hx => y_nilCheck rfl rfl) (fun a hF => ?_)
                refine vp_y hF rfl rfl rfl rfl (by decide) _ (fun x hx => y_field rfl Try.underlying106 rfl sz53_rx (by decide) rfl (rfl : (⟨_, 0 + _, none⟩ : Addr) = ⟨_, 0, none⟩)) (fun a hF => ?_)
                refine vp_y hF rfl rfl rfl rfl (by decide) _ (fun x hx => y_ld rfl hx rfl 0 rfl rfl nr53_rx) (fun a hF => ?_)
                refine vp_y hF rfl rfl rfl rfl (by decide) _ (fun x hx => y_move rfl rfl) (fun a hF => ?_)
                refine vp_y hF rfl rfl rfl rfl (by decide) _ (fun x hx => y_ldRow (new := opC o) rfl hx rfl 4 rfl rw38_rx (Nat.le_of_ble_eq_true rfl) rfl) (fun a hF => ?_)
                have hA53 : Hp w0 ([row rb 95 [.slice A l.length c, .int .i64 (p : Int), .int .i64 (y : Int)]] :: X :: [row xb 106 [.pointer (some ⟨rb, 0, none⟩), .slice LA (l.length - p) LC, .int .i64 (y : Int)]] :: (((qs.map (rxS l)).eraseIdx i).flatten) :: (row sb 68 (bv :: .slice (some ⟨bR, pR, none⟩) qs.length cR :: cs0) :: Z0) :: XR :: [row b1 38 [.int .i64 o.kind, .int .i64 o.at_, .int .u64 (o.v.n : Int), .int .i64 o.many, .bool o.v.b, .slice o.dA o.v.ds.length o.dC, .slice o.qA o.ps.length o.qC, .slice o.pA o.v.p.length o.pC, strV o.v.s, .slice o.sA o.v.ss.length o.sC, .int .i64 o.most, .int .i64 o.each]] :: R) x.drew := Hp.ord [[row xb 106 [.pointer (some ⟨rb, 0, none⟩), .slice LA (l.length - p) LC, .int .i64 (y : Int)]], [row rb 95 [.slice A l.length c, .int .i64 (p : Int), .int .i64 (y : Int)]], X, (((qs.map (rxS l)).eraseIdx i).flatten), (row sb 68 (bv :: .slice (some ⟨bR, pR, none⟩) qs.length cR :: cs0) :: Z0), XR, [row b1 38 [.int .i64 o.kind, .int .i64 o.at_, .int .u64 (o.v.n : Int), .int .i64 o.many, .bool o.v.b, .slice o.dA o.v.ds.length o.dC, .slice o.qA o.ps.length o.qC, .slice o.pA o.v.p.length o.pC, strV o.v.s, .slice o.sA o.v.ss.length o.sC, .int .i64 o.most, .int .i64 o.each]]] R [1, 2, 0, 3, 4, 5, 6] hA52 rfl
                refine vp_l rfl rfl rfl (fun K hK => ws_call hF rfl (by decide) cl60_rx rfl rfl ?_)
                with_reducible refine (rx_takesN w0 _ ([row xb 106 [.pointer (some ⟨rb, 0, none⟩), .slice LA (l.length - p) LC, .int .i64 (y : Int)]] :: (((qs.map (rxS l)).eraseIdx i).flatten) :: (row sb 68 (bv :: .slice (some ⟨bR, pR, none⟩) qs.length cR :: cs0) :: Z0) :: XR :: [row b1 38 [.int .i64 o.kind, .int .i64 o.at_, .int .u64 (o.v.n : Int), .int .i64 o.many, .bool o.v.b, .slice o.dA o.v.ds.length o.dC, .slice o.qA o.ps.length o.qC, .slice o.pA o.v.p.length o.pC, strV o.v.s, .slice o.sA o.v.ss.length o.sC, .int .i64 o.most, .int .i64 o.each]] :: R) rb A l c p y X o LB m LD hm (hLB0.mono (subC (subC (subC (subC (subC (sub0))))))) hO hA53 hp hl ).mono ?_
                rintro e' w54 ⟨z, k, e, p', y', rfl, hst, hA55⟩
                refine ⟨_, rfl, fun a hF => hK _ _ (fun _ => ?_) ?_⟩
                · exact Hp.qp [[row rb 95 [.slice A l.length c, .int .i64 (p' : Int), .int .i64 (y' : Int)]], X, [row xb 106 [.pointer (some ⟨rb, 0, none⟩), .slice LA (l.length - p) LC, .int .i64 (y : Int)]], (((qs.map (rxS l)).eraseIdx i).flatten), (row sb 68 (bv :: .slice (some ⟨bR, pR, none⟩) qs.length cR :: cs0) :: Z0), XR, [row b1 38 [.int .i64 o.kind, .int .i64 o.at_, .int .u64 (o.v.n : Int), .int .i64 o.many, .bool o.v.b, .slice o.dA o.v.ds.length o.dC, .slice o.qA o.ps.length o.qC, .slice o.pA o.v.p.length o.pC, strV o.v.s, .slice o.sA o.v.ss.length o.sC, .int .i64 o.most, .int .i64 o.each]]] R [2, 3, 4, 5, 6] hA55
                clear hK K
                replace hA55 : Hp w0 ([row rb 95 [.slice A l.length c, .int .i64 (p' : Int), .int .i64 (y' : Int)]] :: X :: [row xb 106 [.pointer (some ⟨rb, 0, none⟩), .slice LA (l.length - p) LC, .int .i64 (y : Int)]] :: (((qs.map (rxS l)).eraseIdx i).flatten) :: (row sb 68 (bv :: .slice (some ⟨bR, pR, none⟩) qs.length cR :: cs0) :: Z0) :: XR :: [row b1 38 [.int .i64 o.kind, .int .i64 o.at_, .int .u64 (o.v.n : Int), .int .i64 o.many, .bool o.v.b, .slice o.dA o.v.ds.length o.dC, .slice o.qA o.ps.length o.qC, .slice o.pA o.v.p.length o.pC, strV o.v.s, .slice o.sA o.v.ss.length o.sC, .int .i64 o.most, .int .i64 o.each]] :: R) w54 := hA55
                refine vp_y hF rfl rfl rfl rfl (by decide) _ (fun x hx => y_move rfl rfl) (fun a hF => ?_)
                refine vp_y hF rfl rfl rfl rfl (by decide) _ (fun x hx => y_extract (v := .int .u64 z) rfl rfl rfl) (fun a hF => ?_)
                refine vp_y hF rfl rfl rfl rfl (by decide) _ (fun x hx => y_extract (v := .int .u64 z) rfl rfl rfl) (fun a hF => ?_)
                refine vp_y hF rfl rfl rfl rfl (by decide) _ (fun x hx => y_extract (v := .int .i64 (k : Int)) rfl rfl rfl) (fun a hF => ?_)
                refine vp_y hF rfl rfl rfl rfl (by decide) _ (fun x hx => y_extract (v := .int .i64 (e : Int)) rfl rfl rfl) (fun a hF => ?_)
                refine vp_y hF rfl rfl rfl rfl (by decide) _ (fun x hx => y_assign rfl rfl) (fun a hF => ?_)
                refine vp_y hF rfl rfl rfl rfl (by decide) _ (fun x hx => y_assign rfl rfl) (fun a hF => ?_)
                refine vp_y hF rfl rfl rfl rfl (by decide) _ (fun x hx => y_assign rfl rfl) (fun a hF => ?_)
                refine vp_ly hF rfl rfl rfl rfl (by decide) _ (y_assign rfl rfl) (fun h => absurd h (by decide)) (fun a hF => ?_)
                refine plan_end ?_
                refine hK47 _ _ ?_; clear  hK47 K47
                apply wp_seq_k; intro K48 hK48
                refine wp_region_lit ?_
                refine vc_y hF rfl rfl (by decide) _ (y_move rfl rfl) (fun a hF => ?_)
                refine vc_y hF rfl rfl (by decide) _ (y_move rfl rfl) (fun a hF => ?_)
                refine vc_y hF rfl rfl (by decide) _ (y_cmp rfl rfl rfl rfl (eql_t rfl)) (fun a hF => ?_)
                refine vc_y hF rfl rfl (by decide) _ (y_assign rfl rfl) (fun a hF => ?_)
                refine vc_nil ?_
                refine hK48 _ _ ?_; clear  hK48 K48
                apply wp_seq_k; intro K49 hK49
                refine wp_region_lit ?_
                refine vc_y hF rfl rfl (by decide) _ (y_move rfl rfl) (fun a hF => ?_)
                refine vc_y hF rfl rfl (by decide) _ (y_assign rfl rfl) (fun a hF => ?_)
                refine vc_nil ?_
                refine hK49 _ _ ?_; clear  hK49 K49
                refine wp_region_lit ?_
                refine vc_y hF rfl rfl (by decide) _ (y_move rfl rfl) (fun a hF => ?_)
                refine vc_y hF rfl rfl (by decide) _ (y_assign rfl rfl) (fun a hF => ?_)
                refine vc_nil ?_
                have hA56 : Hp w0 ([row xb 106 [.pointer (some ⟨rb, 0, none⟩), .slice LA (l.length - p) LC, .int .i64 (y : Int)]] :: [row rb 95 [.slice A l.length c, .int .i64 (p' : Int), .int .i64 (y' : Int)]] :: X :: (row sb 68 (bv :: .slice (some ⟨bR, pR, none⟩) qs.length cR :: cs0) :: Z0) :: (((qs.map (rxS l)).eraseIdx i).flatten) :: XR :: [row b1 38 [.int .i64 o.kind, .int .i64 o.at_, .int .u64 (o.v.n : Int), .int .i64 o.many, .bool o.v.b, .slice o.dA o.v.ds.length o.dC, .slice o.qA o.ps.length o.qC, .slice o.pA o.v.p.length o.pC, strV o.v.s, .slice o.sA o.v.ss.length o.sC, .int .i64 o.most, .int .i64 o.each]] :: R) w54 := Hp.ord [[row rb 95 [.slice A l.length c, .int .i64 (p' : Int), .int .i64 (y' : Int)]], X, [row xb 106 [.pointer (some ⟨rb, 0, none⟩), .slice LA (l.length - p) LC, .int .i64 (y : Int)]], (((qs.map (rxS l)).eraseIdx i).flatten), (row sb 68 (bv :: .slice (some ⟨bR, pR, none⟩) qs.length cR :: cs0) :: Z0), XR, [row b1 38 [.int .i64 o.kind, .int .i64 o.at_, .int .u64 (o.v.n : Int), .int .i64 o.many, .bool o.v.b, .slice o.dA o.v.ds.length o.dC, .slice o.qA o.ps.length o.qC, .slice o.pA o.v.p.length o.pC, strV o.v.s, .slice o.sA o.v.ss.length o.sC, .int .i64 o.most, .int .i64 o.each]]] R [2, 0, 1, 4, 3, 5, 6] hA55 rfl
                exact tail2 _ _ p' y' k e _ hst hS (hF.keep [7, 8, 9, 0, 5] rfl) hA56
              · refine vc_falseB hF rfl (eql_f (by omega)) ?_
                apply wp_seq_k; intro K50 hK50
                apply wp_seq_k; intro K51 hK51
                refine wp_region_lit ?_
                refine vc_y hF rfl rfl (by decide) _ (y_cmp rfl rfl rfl rfl rfl) (fun a hF => ?_)
                refine vc_y hF rfl rfl (by decide) _ (y_assign rfl rfl) (fun a hF => ?_)
                refine vc_nil ?_
                refine hK51 _ _ ?_; clear  hK51 K51
                by_cases k11 : o.kind = 11
                · refine vc_trueB hF rfl (eql_t (by omega)) ?_
                  apply wp_skip
                  refine hK50 _ _ ?_; clear  hK50 K50
                  refine vc_trueB hF rfl (eql_t (by omega)) ?_
                  refine wp_region_plan 14 [7,14] [0,1,2,3,4,5,6,7,8,9,10,11,12,13,14] (fun x => Hq w0 ([row xb 106 [.pointer (some ⟨rb, 0, none⟩), .slice LA (l.length - p) LC, .int .i64 (y : Int)]] :: (((qs.map (rxS l)).eraseIdx i).flatten) :: XR :: [row b1 38 [.int .i64 o.kind, .int .i64 o.at_, .int .u64 (o.v.n : Int), .int .i64 o.many, .bool o.v.b, .slice o.dA o.v.ds.length o.dC, .slice o.qA o.ps.length o.qC, .slice o.pA o.v.p.length o.pC, strV o.v.s, .slice o.sA o.v.ss.length o.sC, .int .i64 o.most, .int .i64 o.each]] :: R) x) (by kernel_rfl) (by kernel_rfl) (Hq.drew (Hp.qp [[row xb 106 [.pointer (some ⟨rb, 0, none⟩), .slice LA (l.length - p) LC, .int .i64 (y : Int)]], [row rb 95 [.slice A l.length c, .int .i64 (p : Int), .int .i64 (y : Int)]], X, (((qs.map (rxS l)).eraseIdx i).flatten), (row sb 68 (bv :: .slice (some ⟨bR, pR, none⟩) qs.length cR :: cs0) :: Z0), XR, [row b1 38 [.int .i64 o.kind, .int .i64 o.at_, .int .u64 (o.v.n : Int), .int .i64 o.many, .bool o.v.b, .slice o.dA o.v.ds.length o.dC, .slice o.qA o.ps.length o.qC, .slice o.pA o.v.p.length o.pC, strV o.v.s, .slice o.sA o.v.ss.length o.sC, .int .i64 o.most, .int .i64 o.each]]] R [0, 3, 5, 6] hA)) ?_
                  have hA57 := Hl.drew hA
                  refine vp_y hF rfl rfl rfl rfl (by decide) _ (fun x hx => y_move rfl rfl) (fun a hF => ?_)
                  refine vp_y hF rfl rfl rfl rfl (by decide) _ (fun x hx => y_move rfl rfl) (fun a hF => ?_)
                  refine vp_y hF rfl rfl rfl rfl (by decide) _ (fun x hx => y_nilCheck rfl rfl) (fun a hF => ?_)
                  refine vp_y hF rfl rfl rfl rfl (by decide) _ (fun x hx => y_field rfl Try.underlying106 rfl sz53_rx (by decide) rfl (rfl : (⟨_, 0 + _, none⟩ : Addr) = ⟨_, 0, none⟩)) (fun a hF => ?_)
                  refine vp_y hF rfl rfl rfl rfl (by decide) _ (fun x hx => y_ld rfl hx rfl 0 rfl rfl nr53_rx) (fun a hF => ?_)
                  refine vp_y hF rfl rfl rfl rfl (by decide) _ (fun x hx => y_move rfl rfl) (fun a hF => ?_)
                  refine vp_y hF rfl rfl rfl rfl (by decide) _ (fun x hx => y_ldRow (new := opC o) rfl hx rfl 3 rfl rw38_rx (Nat.le_of_ble_eq_true rfl) rfl) (fun a hF => ?_)
                  have hA58 : Hp w0 ([row rb 95 [.slice A l.length c, .int .i64 (p : Int), .int .i64 (y : Int)]] :: X :: (row sb 68 (bv :: .slice (some ⟨bR, pR, none⟩) qs.length cR :: cs0) :: Z0) :: [row xb 106 [.pointer (some ⟨rb, 0, none⟩), .slice LA (l.length - p) LC, .int .i64 (y : Int)]] :: (((qs.map (rxS l)).eraseIdx i).flatten) :: XR :: [row b1 38 [.int .i64 o.kind, .int .i64 o.at_, .int .u64 (o.v.n : Int), .int .i64 o.many, .bool o.v.b, .slice o.dA o.v.ds.length o.dC, .slice o.qA o.ps.length o.qC, .slice o.pA o.v.p.length o.pC, strV o.v.s, .slice o.sA o.v.ss.length o.sC, .int .i64 o.most, .int .i64 o.each]] :: R) x.drew := Hp.ord [[row xb 106 [.pointer (some ⟨rb, 0, none⟩), .slice LA (l.length - p) LC, .int .i64 (y : Int)]], [row rb 95 [.slice A l.length c, .int .i64 (p : Int), .int .i64 (y : Int)]], X, (((qs.map (rxS l)).eraseIdx i).flatten), (row sb 68 (bv :: .slice (some ⟨bR, pR, none⟩) qs.length cR :: cs0) :: Z0), XR, [row b1 38 [.int .i64 o.kind, .int .i64 o.at_, .int .u64 (o.v.n : Int), .int .i64 o.many, .bool o.v.b, .slice o.dA o.v.ds.length o.dC, .slice o.qA o.ps.length o.qC, .slice o.pA o.v.p.length o.pC, strV o.v.s, .slice o.sA o.v.ss.length o.sC, .int .i64 o.most, .int .i64 o.each]]] R [1, 2, 4, 0, 3, 5, 6] hA57 rfl
                  refine vp_l rfl rfl rfl (fun K hK => ws_call hF rfl (by decide) cl61_rx rfl rfl ?_)
                  with_reducible refine (rx_laysN w0 _ ([row xb 106 [.pointer (some ⟨rb, 0, none⟩), .slice LA (l.length - p) LC, .int .i64 (y : Int)]] :: (((qs.map (rxS l)).eraseIdx i).flatten) :: XR :: [row b1 38 [.int .i64 o.kind, .int .i64 o.at_, .int .u64 (o.v.n : Int), .int .i64 o.many, .bool o.v.b, .slice o.dA o.v.ds.length o.dC, .slice o.qA o.ps.length o.qC, .slice o.pA o.v.p.length o.pC, strV o.v.s, .slice o.sA o.v.ss.length o.sC, .int .i64 o.most, .int .i64 o.each]] :: R) sb rb bv _ _ hS A l c p y X o hmany LB m LD hm hLD (hLB0.mono (subC (subC (subC (subC (sub0)))))) hO hA58 hp hl ).mono ?_
                  rintro e' w59 ⟨k, e, p', y', YS', rfl, hst, hS', hA60⟩
                  refine ⟨_, rfl, fun a hF => hK _ _ (fun _ => ?_) ?_⟩
                  · exact Hp.qp [[row rb 95 [.slice A l.length c, .int .i64 (p' : Int), .int .i64 (y' : Int)]], X, YS', [row xb 106 [.pointer (some ⟨rb, 0, none⟩), .slice LA (l.length - p) LC, .int .i64 (y : Int)]], (((qs.map (rxS l)).eraseIdx i).flatten), XR, [row b1 38 [.int .i64 o.kind, .int .i64 o.at_, .int .u64 (o.v.n : Int), .int .i64 o.many, .bool o.v.b, .slice o.dA o.v.ds.length o.dC, .slice o.qA o.ps.length o.qC, .slice o.pA o.v.p.length o.pC, strV o.v.s, .slice o.sA o.v.ss.length o.sC, .int .i64 o.most, .int .i64 o.each]]] R [3, 4, 5, 6] hA60
                  clear hK K
                  replace hA60 : Hp w0 ([row rb 95 [.slice A l.length c, .int .i64 (p' : Int), .int .i64 (y' : Int)]] :: X :: YS' :: [row xb 106 [.pointer (some ⟨rb, 0, none⟩), .slice LA (l.length - p) LC, .int .i64 (y : Int)]] :: (((qs.map (rxS l)).eraseIdx i).flatten) :: XR :: [row b1 38 [.int .i64 o.kind, .int .i64 o.at_, .int .u64 (o.v.n : Int), .int .i64 o.many, .bool o.v.b, .slice o.dA o.v.ds.length o.dC, .slice o.qA o.ps.length o.qC, .slice o.pA o.v.p.length o.pC, strV o.v.s, .slice o.sA o.v.ss.length o.sC, .int .i64 o.most, .int .i64 o.each]] :: R) w59 := hA60
                  refine vp_y hF rfl rfl rfl rfl (by decide) _ (fun x hx => y_move rfl rfl) (fun a hF => ?_)
                  refine vp_y hF rfl rfl rfl rfl (by decide) _ (fun x hx => y_extract (v := .bool true) rfl rfl rfl) (fun a hF => ?_)
                  refine vp_y hF rfl rfl rfl rfl (by decide) _ (fun x hx => y_extract (v := .int .i64 (k : Int)) rfl rfl rfl) (fun a hF => ?_)
                  refine vp_y hF rfl rfl rfl rfl (by decide) _ (fun x hx => y_extract (v := .int .i64 (e : Int)) rfl rfl rfl) (fun a hF => ?_)
                  refine vp_y hF rfl rfl rfl rfl (by decide) _ (fun x hx => y_assign rfl rfl) (fun a hF => ?_)
                  refine vp_y hF rfl rfl rfl rfl (by decide) _ (fun x hx => y_assign rfl rfl) (fun a hF => ?_)
                  refine vp_ly hF rfl rfl rfl rfl (by decide) _ (y_assign rfl rfl) (fun h => absurd h (by decide)) (fun a hF => ?_)
                  refine plan_end ?_
                  have hA61 : Hp w0 ([row xb 106 [.pointer (some ⟨rb, 0, none⟩), .slice LA (l.length - p) LC, .int .i64 (y : Int)]] :: [row rb 95 [.slice A l.length c, .int .i64 (p' : Int), .int .i64 (y' : Int)]] :: X :: YS' :: (((qs.map (rxS l)).eraseIdx i).flatten) :: XR :: [row b1 38 [.int .i64 o.kind, .int .i64 o.at_, .int .u64 (o.v.n : Int), .int .i64 o.many, .bool o.v.b, .slice o.dA o.v.ds.length o.dC, .slice o.qA o.ps.length o.qC, .slice o.pA o.v.p.length o.pC, strV o.v.s, .slice o.sA o.v.ss.length o.sC, .int .i64 o.most, .int .i64 o.each]] :: R) w59 := Hp.ord [[row rb 95 [.slice A l.length c, .int .i64 (p' : Int), .int .i64 (y' : Int)]], X, YS', [row xb 106 [.pointer (some ⟨rb, 0, none⟩), .slice LA (l.length - p) LC, .int .i64 (y : Int)]], (((qs.map (rxS l)).eraseIdx i).flatten), XR, [row b1 38 [.int .i64 o.kind, .int .i64 o.at_, .int .u64 (o.v.n : Int), .int .i64 o.many, .bool o.v.b, .slice o.dA o.v.ds.length o.dC, .slice o.qA o.ps.length o.qC, .slice o.pA o.v.p.length o.pC, strV o.v.s, .slice o.sA o.v.ss.length o.sC, .int .i64 o.most, .int .i64 o.each]]] R [3, 0, 1, 2, 4, 5, 6] hA60 rfl
                  exact tail2 _ _ p' y' k e YS' hst hS' (hF.keep [7, 8, 9, 0, 5] rfl) hA61
                · refine vc_falseB hF rfl (eql_f (by omega)) ?_
                  apply wp_seq_k; intro K52 hK52
                  refine wp_region_lit ?_
                  refine vc_y hF rfl rfl (by decide) _ (y_cmp rfl rfl rfl rfl rfl) (fun a hF => ?_)
                  refine vc_y hF rfl rfl (by decide) _ (y_assign rfl rfl) (fun a hF => ?_)
                  refine vc_nil ?_
                  refine hK52 _ _ ?_; clear  hK52 K52
                  by_cases k6 : o.kind = 6
                  · refine vc_trueB hF rfl (eql_t (by omega)) ?_
                    apply wp_skip
                    refine hK50 _ _ ?_; clear  hK50 K50
                    refine vc_trueB hF rfl (eql_t (by omega)) ?_
                    refine wp_region_plan 14 [7,14] [0,1,2,3,4,5,6,7,8,9,10,11,12,13,14] (fun x => Hq w0 ([row xb 106 [.pointer (some ⟨rb, 0, none⟩), .slice LA (l.length - p) LC, .int .i64 (y : Int)]] :: (((qs.map (rxS l)).eraseIdx i).flatten) :: XR :: [row b1 38 [.int .i64 o.kind, .int .i64 o.at_, .int .u64 (o.v.n : Int), .int .i64 o.many, .bool o.v.b, .slice o.dA o.v.ds.length o.dC, .slice o.qA o.ps.length o.qC, .slice o.pA o.v.p.length o.pC, strV o.v.s, .slice o.sA o.v.ss.length o.sC, .int .i64 o.most, .int .i64 o.each]] :: R) x) (by kernel_rfl) (by kernel_rfl) (Hq.drew (Hp.qp [[row xb 106 [.pointer (some ⟨rb, 0, none⟩), .slice LA (l.length - p) LC, .int .i64 (y : Int)]], [row rb 95 [.slice A l.length c, .int .i64 (p : Int), .int .i64 (y : Int)]], X, (((qs.map (rxS l)).eraseIdx i).flatten), (row sb 68 (bv :: .slice (some ⟨bR, pR, none⟩) qs.length cR :: cs0) :: Z0), XR, [row b1 38 [.int .i64 o.kind, .int .i64 o.at_, .int .u64 (o.v.n : Int), .int .i64 o.many, .bool o.v.b, .slice o.dA o.v.ds.length o.dC, .slice o.qA o.ps.length o.qC, .slice o.pA o.v.p.length o.pC, strV o.v.s, .slice o.sA o.v.ss.length o.sC, .int .i64 o.most, .int .i64 o.each]]] R [0, 3, 5, 6] hA)) ?_
                    have hA62 := Hl.drew hA
                    refine vp_y hF rfl rfl rfl rfl (by decide) _ (fun x hx => y_move rfl rfl) (fun a hF => ?_)
                    refine vp_y hF rfl rfl rfl rfl (by decide) _ (fun x hx => y_move rfl rfl) (fun a hF => ?_)
                    refine vp_y hF rfl rfl rfl rfl (by decide) _ (fun x hx => y_nilCheck rfl rfl) (fun a hF => ?_)
                    refine vp_y hF rfl rfl rfl rfl (by decide) _ (fun x hx => y_field rfl Try.underlying106 rfl sz53_rx (by decide) rfl (rfl : (⟨_, 0 + _, none⟩ : Addr) = ⟨_, 0, none⟩)) (fun a hF => ?_)
                    refine vp_y hF rfl rfl rfl rfl (by decide) _ (fun x hx => y_ld rfl hx rfl 0 rfl rfl nr53_rx) (fun a hF => ?_)
                    refine vp_y hF rfl rfl rfl rfl (by decide) _ (fun x hx => y_move rfl rfl) (fun a hF => ?_)
                    refine vp_y hF rfl rfl rfl rfl (by decide) _ (fun x hx => y_ldRow (new := opC o) rfl hx rfl 3 rfl rw38_rx (Nat.le_of_ble_eq_true rfl) rfl) (fun a hF => ?_)
                    have hA63 : Hp w0 ([row rb 95 [.slice A l.length c, .int .i64 (p : Int), .int .i64 (y : Int)]] :: X :: (row sb 68 (bv :: .slice (some ⟨bR, pR, none⟩) qs.length cR :: cs0) :: Z0) :: [row xb 106 [.pointer (some ⟨rb, 0, none⟩), .slice LA (l.length - p) LC, .int .i64 (y : Int)]] :: (((qs.map (rxS l)).eraseIdx i).flatten) :: XR :: [row b1 38 [.int .i64 o.kind, .int .i64 o.at_, .int .u64 (o.v.n : Int), .int .i64 o.many, .bool o.v.b, .slice o.dA o.v.ds.length o.dC, .slice o.qA o.ps.length o.qC, .slice o.pA o.v.p.length o.pC, strV o.v.s, .slice o.sA o.v.ss.length o.sC, .int .i64 o.most, .int .i64 o.each]] :: R) x.drew := Hp.ord [[row xb 106 [.pointer (some ⟨rb, 0, none⟩), .slice LA (l.length - p) LC, .int .i64 (y : Int)]], [row rb 95 [.slice A l.length c, .int .i64 (p : Int), .int .i64 (y : Int)]], X, (((qs.map (rxS l)).eraseIdx i).flatten), (row sb 68 (bv :: .slice (some ⟨bR, pR, none⟩) qs.length cR :: cs0) :: Z0), XR, [row b1 38 [.int .i64 o.kind, .int .i64 o.at_, .int .u64 (o.v.n : Int), .int .i64 o.many, .bool o.v.b, .slice o.dA o.v.ds.length o.dC, .slice o.qA o.ps.length o.qC, .slice o.pA o.v.p.length o.pC, strV o.v.s, .slice o.sA o.v.ss.length o.sC, .int .i64 o.most, .int .i64 o.each]]] R [1, 2, 4, 0, 3, 5, 6] hA62 rfl
                    refine vp_l rfl rfl rfl (fun K hK => ws_call hF rfl (by decide) cl61_rx rfl rfl ?_)
                    with_reducible refine (rx_laysN w0 _ ([row xb 106 [.pointer (some ⟨rb, 0, none⟩), .slice LA (l.length - p) LC, .int .i64 (y : Int)]] :: (((qs.map (rxS l)).eraseIdx i).flatten) :: XR :: [row b1 38 [.int .i64 o.kind, .int .i64 o.at_, .int .u64 (o.v.n : Int), .int .i64 o.many, .bool o.v.b, .slice o.dA o.v.ds.length o.dC, .slice o.qA o.ps.length o.qC, .slice o.pA o.v.p.length o.pC, strV o.v.s, .slice o.sA o.v.ss.length o.sC, .int .i64 o.most, .int .i64 o.each]] :: R) sb rb bv _ _ hS A l c p y X o hmany LB m LD hm hLD (hLB0.mono (subC (subC (subC (subC (sub0)))))) hO hA63 hp hl ).mono ?_
                    rintro e' w64 ⟨k, e, p', y', YS', rfl, hst, hS', hA65⟩
                    refine ⟨_, rfl, fun a hF => hK _ _ (fun _ => ?_) ?_⟩
                    · exact Hp.qp [[row rb 95 [.slice A l.length c, .int .i64 (p' : Int), .int .i64 (y' : Int)]], X, YS', [row xb 106 [.pointer (some ⟨rb, 0, none⟩), .slice LA (l.length - p) LC, .int .i64 (y : Int)]], (((qs.map (rxS l)).eraseIdx i).flatten), XR, [row b1 38 [.int .i64 o.kind, .int .i64 o.at_, .int .u64 (o.v.n : Int), .int .i64 o.many, .bool o.v.b, .slice o.dA o.v.ds.length o.dC, .slice o.qA o.ps.length o.qC, .slice o.pA o.v.p.length o.pC, strV o.v.s, .slice o.sA o.v.ss.length o.sC, .int .i64 o.most, .int .i64 o.each]]] R [3, 4, 5, 6] hA65
                    clear hK K
                    replace hA65 : Hp w0 ([row rb 95 [.slice A l.length c, .int .i64 (p' : Int), .int .i64 (y' : Int)]] :: X :: YS' :: [row xb 106 [.pointer (some ⟨rb, 0, none⟩), .slice LA (l.length - p) LC, .int .i64 (y : Int)]] :: (((qs.map (rxS l)).eraseIdx i).flatten) :: XR :: [row b1 38 [.int .i64 o.kind, .int .i64 o.at_, .int .u64 (o.v.n : Int), .int .i64 o.many, .bool o.v.b, .slice o.dA o.v.ds.length o.dC, .slice o.qA o.ps.length o.qC, .slice o.pA o.v.p.length o.pC, strV o.v.s, .slice o.sA o.v.ss.length o.sC, .int .i64 o.most, .int .i64 o.each]] :: R) w64 := hA65
                    refine vp_y hF rfl rfl rfl rfl (by decide) _ (fun x hx => y_move rfl rfl) (fun a hF => ?_)
                    refine vp_y hF rfl rfl rfl rfl (by decide) _ (fun x hx => y_extract (v := .bool true) rfl rfl rfl) (fun a hF => ?_)
                    refine vp_y hF rfl rfl rfl rfl (by decide) _ (fun x hx => y_extract (v := .int .i64 (k : Int)) rfl rfl rfl) (fun a hF => ?_)
                    refine vp_y hF rfl rfl rfl rfl (by decide) _ (fun x hx => y_extract (v := .int .i64 (e : Int)) rfl rfl rfl) (fun a hF => ?_)
                    refine vp_y hF rfl rfl rfl rfl (by decide) _ (fun x hx => y_assign rfl rfl) (fun a hF => ?_)
                    refine vp_y hF rfl rfl rfl rfl (by decide) _ (fun x hx => y_assign rfl rfl) (fun a hF => ?_)
                    refine vp_ly hF rfl rfl rfl rfl (by decide) _ (y_assign rfl rfl) (fun h => absurd h (by decide)) (fun a hF => ?_)
                    refine plan_end ?_
                    have hA66 : Hp w0 ([row xb 106 [.pointer (some ⟨rb, 0, none⟩), .slice LA (l.length - p) LC, .int .i64 (y : Int)]] :: [row rb 95 [.slice A l.length c, .int .i64 (p' : Int), .int .i64 (y' : Int)]] :: X :: YS' :: (((qs.map (rxS l)).eraseIdx i).flatten) :: XR :: [row b1 38 [.int .i64 o.kind, .int .i64 o.at_, .int .u64 (o.v.n : Int), .int .i64 o.many, .bool o.v.b, .slice o.dA o.v.ds.length o.dC, .slice o.qA o.ps.length o.qC, .slice o.pA o.v.p.length o.pC, strV o.v.s, .slice o.sA o.v.ss.length o.sC, .int .i64 o.most, .int .i64 o.each]] :: R) w64 := Hp.ord [[row rb 95 [.slice A l.length c, .int .i64 (p' : Int), .int .i64 (y' : Int)]], X, YS', [row xb 106 [.pointer (some ⟨rb, 0, none⟩), .slice LA (l.length - p) LC, .int .i64 (y : Int)]], (((qs.map (rxS l)).eraseIdx i).flatten), XR, [row b1 38 [.int .i64 o.kind, .int .i64 o.at_, .int .u64 (o.v.n : Int), .int .i64 o.many, .bool o.v.b, .slice o.dA o.v.ds.length o.dC, .slice o.qA o.ps.length o.qC, .slice o.pA o.v.p.length o.pC, strV o.v.s, .slice o.sA o.v.ss.length o.sC, .int .i64 o.most, .int .i64 o.each]]] R [3, 0, 1, 2, 4, 5, 6] hA65 rfl
                    exact tail2 _ _ p' y' k e YS' hst hS' (hF.keep [7, 8, 9, 0, 5] rfl) hA66
                  · refine vc_falseB hF rfl (eql_f (by omega)) ?_
                    refine wp_region_lit ?_
                    refine vc_y hF rfl rfl (by decide) _ (y_cmp rfl rfl rfl rfl rfl) (fun a hF => ?_)
                    refine vc_y hF rfl rfl (by decide) _ (y_assign rfl rfl) (fun a hF => ?_)
                    refine vc_nil ?_
                    refine hK50 _ _ ?_; clear  hK50 K50
                    by_cases k7 : o.kind = 7
                    · refine vc_trueB hF rfl (eql_t (by omega)) ?_
                      refine wp_region_plan 14 [7,14] [0,1,2,3,4,5,6,7,8,9,10,11,12,13,14] (fun x => Hq w0 ([row xb 106 [.pointer (some ⟨rb, 0, none⟩), .slice LA (l.length - p) LC, .int .i64 (y : Int)]] :: (((qs.map (rxS l)).eraseIdx i).flatten) :: XR :: [row b1 38 [.int .i64 o.kind, .int .i64 o.at_, .int .u64 (o.v.n : Int), .int .i64 o.many, .bool o.v.b, .slice o.dA o.v.ds.length o.dC, .slice o.qA o.ps.length o.qC, .slice o.pA o.v.p.length o.pC, strV o.v.s, .slice o.sA o.v.ss.length o.sC, .int .i64 o.most, .int .i64 o.each]] :: R) x) (by kernel_rfl) (by kernel_rfl) (Hq.drew (Hp.qp [[row xb 106 [.pointer (some ⟨rb, 0, none⟩), .slice LA (l.length - p) LC, .int .i64 (y : Int)]], [row rb 95 [.slice A l.length c, .int .i64 (p : Int), .int .i64 (y : Int)]], X, (((qs.map (rxS l)).eraseIdx i).flatten), (row sb 68 (bv :: .slice (some ⟨bR, pR, none⟩) qs.length cR :: cs0) :: Z0), XR, [row b1 38 [.int .i64 o.kind, .int .i64 o.at_, .int .u64 (o.v.n : Int), .int .i64 o.many, .bool o.v.b, .slice o.dA o.v.ds.length o.dC, .slice o.qA o.ps.length o.qC, .slice o.pA o.v.p.length o.pC, strV o.v.s, .slice o.sA o.v.ss.length o.sC, .int .i64 o.most, .int .i64 o.each]]] R [0, 3, 5, 6] hA)) ?_
                      have hA67 := Hl.drew hA
                      refine vp_y hF rfl rfl rfl rfl (by decide) _ (fun x hx => y_move rfl rfl) (fun a hF => ?_)
                      refine vp_y hF rfl rfl rfl rfl (by decide) _ (fun x hx => y_move rfl rfl) (fun a hF => ?_)
                      refine vp_y hF rfl rfl rfl rfl (by decide) _ (fun x hx => y_nilCheck rfl rfl) (fun a hF => ?_)
                      refine vp_y hF rfl rfl rfl rfl (by decide) _ (fun x hx => y_field rfl Try.underlying106 rfl sz53_rx (by decide) rfl (rfl : (⟨_, 0 + _, none⟩ : Addr) = ⟨_, 0, none⟩)) (fun a hF => ?_)
                      refine vp_y hF rfl rfl rfl rfl (by decide) _ (fun x hx => y_ld rfl hx rfl 0 rfl rfl nr53_rx) (fun a hF => ?_)
                      refine vp_y hF rfl rfl rfl rfl (by decide) _ (fun x hx => y_move rfl rfl) (fun a hF => ?_)
                      refine vp_y hF rfl rfl rfl rfl (by decide) _ (fun x hx => y_ldRow (new := opC o) rfl hx rfl 3 rfl rw38_rx (Nat.le_of_ble_eq_true rfl) rfl) (fun a hF => ?_)
                      have hA68 : Hp w0 ([row rb 95 [.slice A l.length c, .int .i64 (p : Int), .int .i64 (y : Int)]] :: X :: (row sb 68 (bv :: .slice (some ⟨bR, pR, none⟩) qs.length cR :: cs0) :: Z0) :: [row xb 106 [.pointer (some ⟨rb, 0, none⟩), .slice LA (l.length - p) LC, .int .i64 (y : Int)]] :: (((qs.map (rxS l)).eraseIdx i).flatten) :: XR :: [row b1 38 [.int .i64 o.kind, .int .i64 o.at_, .int .u64 (o.v.n : Int), .int .i64 o.many, .bool o.v.b, .slice o.dA o.v.ds.length o.dC, .slice o.qA o.ps.length o.qC, .slice o.pA o.v.p.length o.pC, strV o.v.s, .slice o.sA o.v.ss.length o.sC, .int .i64 o.most, .int .i64 o.each]] :: R) x.drew := Hp.ord [[row xb 106 [.pointer (some ⟨rb, 0, none⟩), .slice LA (l.length - p) LC, .int .i64 (y : Int)]], [row rb 95 [.slice A l.length c, .int .i64 (p : Int), .int .i64 (y : Int)]], X, (((qs.map (rxS l)).eraseIdx i).flatten), (row sb 68 (bv :: .slice (some ⟨bR, pR, none⟩) qs.length cR :: cs0) :: Z0), XR, [row b1 38 [.int .i64 o.kind, .int .i64 o.at_, .int .u64 (o.v.n : Int), .int .i64 o.many, .bool o.v.b, .slice o.dA o.v.ds.length o.dC, .slice o.qA o.ps.length o.qC, .slice o.pA o.v.p.length o.pC, strV o.v.s, .slice o.sA o.v.ss.length o.sC, .int .i64 o.most, .int .i64 o.each]]] R [1, 2, 4, 0, 3, 5, 6] hA67 rfl
                      refine vp_l rfl rfl rfl (fun K hK => ws_call hF rfl (by decide) cl61_rx rfl rfl ?_)
                      with_reducible refine (rx_laysN w0 _ ([row xb 106 [.pointer (some ⟨rb, 0, none⟩), .slice LA (l.length - p) LC, .int .i64 (y : Int)]] :: (((qs.map (rxS l)).eraseIdx i).flatten) :: XR :: [row b1 38 [.int .i64 o.kind, .int .i64 o.at_, .int .u64 (o.v.n : Int), .int .i64 o.many, .bool o.v.b, .slice o.dA o.v.ds.length o.dC, .slice o.qA o.ps.length o.qC, .slice o.pA o.v.p.length o.pC, strV o.v.s, .slice o.sA o.v.ss.length o.sC, .int .i64 o.most, .int .i64 o.each]] :: R) sb rb bv _ _ hS A l c p y X o hmany LB m LD hm hLD (hLB0.mono (subC (subC (subC (subC (sub0)))))) hO hA68 hp hl ).mono ?_
                      rintro e' w69 ⟨k, e, p', y', YS', rfl, hst, hS', hA70⟩
                      refine ⟨_, rfl, fun a hF => hK _ _ (fun _ => ?_) ?_⟩
                      · exact Hp.qp [[row rb 95 [.slice A l.length c, .int .i64 (p' : Int), .int .i64 (y' : Int)]], X, YS', [row xb 106 [.pointer (some ⟨rb, 0, none⟩), .slice LA (l.length - p) LC, .int .i64 (y : Int)]], (((qs.map (rxS l)).eraseIdx i).flatten), XR, [row b1 38 [.int .i64 o.kind, .int .i64 o.at_, .int .u64 (o.v.n : Int), .int .i64 o.many, .bool o.v.b, .slice o.dA o.v.ds.length o.dC, .slice o.qA o.ps.length o.qC, .slice o.pA o.v.p.length o.pC, strV o.v.s, .slice o.sA o.v.ss.length o.sC, .int .i64 o.most, .int .i64 o.each]]] R [3, 4, 5, 6] hA70
                      clear hK K
                      replace hA70 : Hp w0 ([row rb 95 [.slice A l.length c, .int .i64 (p' : Int), .int .i64 (y' : Int)]] :: X :: YS' :: [row xb 106 [.pointer (some ⟨rb, 0, none⟩), .slice LA (l.length - p) LC, .int .i64 (y : Int)]] :: (((qs.map (rxS l)).eraseIdx i).flatten) :: XR :: [row b1 38 [.int .i64 o.kind, .int .i64 o.at_, .int .u64 (o.v.n : Int), .int .i64 o.many, .bool o.v.b, .slice o.dA o.v.ds.length o.dC, .slice o.qA o.ps.length o.qC, .slice o.pA o.v.p.length o.pC, strV o.v.s, .slice o.sA o.v.ss.length o.sC, .int .i64 o.most, .int .i64 o.each]] :: R) w69 := hA70
                      refine vp_y hF rfl rfl rfl rfl (by decide) _ (fun x hx => y_move rfl rfl) (fun a hF => ?_)
                      refine vp_y hF rfl rfl rfl rfl (by decide) _ (fun x hx => y_extract (v := .bool true) rfl rfl rfl) (fun a hF => ?_)
                      refine vp_y hF rfl rfl rfl rfl (by decide) _ (fun x hx => y_extract (v := .int .i64 (k : Int)) rfl rfl rfl) (fun a hF => ?_)
                      refine vp_y hF rfl rfl rfl rfl (by decide) _ (fun x hx => y_extract (v := .int .i64 (e : Int)) rfl rfl rfl) (fun a hF => ?_)
                      refine vp_y hF rfl rfl rfl rfl (by decide) _ (fun x hx => y_assign rfl rfl) (fun a hF => ?_)
                      refine vp_y hF rfl rfl rfl rfl (by decide) _ (fun x hx => y_assign rfl rfl) (fun a hF => ?_)
                      refine vp_ly hF rfl rfl rfl rfl (by decide) _ (y_assign rfl rfl) (fun h => absurd h (by decide)) (fun a hF => ?_)
                      refine plan_end ?_
                      have hA71 : Hp w0 ([row xb 106 [.pointer (some ⟨rb, 0, none⟩), .slice LA (l.length - p) LC, .int .i64 (y : Int)]] :: [row rb 95 [.slice A l.length c, .int .i64 (p' : Int), .int .i64 (y' : Int)]] :: X :: YS' :: (((qs.map (rxS l)).eraseIdx i).flatten) :: XR :: [row b1 38 [.int .i64 o.kind, .int .i64 o.at_, .int .u64 (o.v.n : Int), .int .i64 o.many, .bool o.v.b, .slice o.dA o.v.ds.length o.dC, .slice o.qA o.ps.length o.qC, .slice o.pA o.v.p.length o.pC, strV o.v.s, .slice o.sA o.v.ss.length o.sC, .int .i64 o.most, .int .i64 o.each]] :: R) w69 := Hp.ord [[row rb 95 [.slice A l.length c, .int .i64 (p' : Int), .int .i64 (y' : Int)]], X, YS', [row xb 106 [.pointer (some ⟨rb, 0, none⟩), .slice LA (l.length - p) LC, .int .i64 (y : Int)]], (((qs.map (rxS l)).eraseIdx i).flatten), XR, [row b1 38 [.int .i64 o.kind, .int .i64 o.at_, .int .u64 (o.v.n : Int), .int .i64 o.many, .bool o.v.b, .slice o.dA o.v.ds.length o.dC, .slice o.qA o.ps.length o.qC, .slice o.pA o.v.p.length o.pC, strV o.v.s, .slice o.sA o.v.ss.length o.sC, .int .i64 o.most, .int .i64 o.each]]] R [3, 0, 1, 2, 4, 5, 6] hA70 rfl
                      exact tail2 _ _ p' y' k e YS' hst hS' (hF.keep [7, 8, 9, 0, 5] rfl) hA71
                    · refine vc_falseB hF rfl (eql_f (by omega)) ?_
                      apply wp_seq_k; intro K53 hK53
                      apply wp_seq_k; intro K54 hK54
                      refine wp_region_lit ?_
                      refine vc_y hF rfl rfl (by decide) _ (y_cmp rfl rfl rfl rfl rfl) (fun a hF => ?_)
                      refine vc_y hF rfl rfl (by decide) _ (y_assign rfl rfl) (fun a hF => ?_)
                      refine vc_nil ?_
                      refine hK54 _ _ ?_; clear  hK54 K54
                      by_cases k8 : o.kind = 8
                      · refine vc_trueB hF rfl (eql_t (by omega)) ?_
                        apply wp_skip
                        refine hK53 _ _ ?_; clear  hK53 K53
                        refine vc_trueB hF rfl (eql_t (by omega)) ?_
                        refine wp_region_plan 14 [7,14] [0,1,2,3,4,5,6,7,8,9,10,11,12,13,14] (fun x => Hq w0 ([row xb 106 [.pointer (some ⟨rb, 0, none⟩), .slice LA (l.length - p) LC, .int .i64 (y : Int)]] :: (((qs.map (rxS l)).eraseIdx i).flatten) :: XR :: [row b1 38 [.int .i64 o.kind, .int .i64 o.at_, .int .u64 (o.v.n : Int), .int .i64 o.many, .bool o.v.b, .slice o.dA o.v.ds.length o.dC, .slice o.qA o.ps.length o.qC, .slice o.pA o.v.p.length o.pC, strV o.v.s, .slice o.sA o.v.ss.length o.sC, .int .i64 o.most, .int .i64 o.each]] :: R) x) (by kernel_rfl) (by kernel_rfl) (Hq.drew (Hp.qp [[row xb 106 [.pointer (some ⟨rb, 0, none⟩), .slice LA (l.length - p) LC, .int .i64 (y : Int)]], [row rb 95 [.slice A l.length c, .int .i64 (p : Int), .int .i64 (y : Int)]], X, (((qs.map (rxS l)).eraseIdx i).flatten), (row sb 68 (bv :: .slice (some ⟨bR, pR, none⟩) qs.length cR :: cs0) :: Z0), XR, [row b1 38 [.int .i64 o.kind, .int .i64 o.at_, .int .u64 (o.v.n : Int), .int .i64 o.many, .bool o.v.b, .slice o.dA o.v.ds.length o.dC, .slice o.qA o.ps.length o.qC, .slice o.pA o.v.p.length o.pC, strV o.v.s, .slice o.sA o.v.ss.length o.sC, .int .i64 o.most, .int .i64 o.each]]] R [0, 3, 5, 6] hA)) ?_
                        have hA72 := Hl.drew hA
                        refine vp_y hF rfl rfl rfl rfl (by decide) _ (fun x hx => y_move rfl rfl) (fun a hF => ?_)
                        refine vp_y hF rfl rfl rfl rfl (by decide) _ (fun x hx => y_move rfl rfl) (fun a hF => ?_)
                        refine vp_y hF rfl rfl rfl rfl (by decide) _ (fun x hx => y_nilCheck rfl rfl) (fun a hF => ?_)
                        refine vp_y hF rfl rfl rfl rfl (by decide) _ (fun x hx => y_field rfl Try.underlying106 rfl sz53_rx (by decide) rfl (rfl : (⟨_, 0 + _, none⟩ : Addr) = ⟨_, 0, none⟩)) (fun a hF => ?_)
                        refine vp_y hF rfl rfl rfl rfl (by decide) _ (fun x hx => y_ld rfl hx rfl 0 rfl rfl nr53_rx) (fun a hF => ?_)
                        refine vp_y hF rfl rfl rfl rfl (by decide) _ (fun x hx => y_move rfl rfl) (fun a hF => ?_)
                        refine vp_y hF rfl rfl rfl rfl (by decide) _ (fun x hx => y_ldRow (new := opC o) rfl hx rfl 3 rfl rw38_rx (Nat.le_of_ble_eq_true rfl) rfl) (fun a hF => ?_)
                        have hA73 : Hp w0 ([row rb 95 [.slice A l.length c, .int .i64 (p : Int), .int .i64 (y : Int)]] :: X :: (row sb 68 (bv :: .slice (some ⟨bR, pR, none⟩) qs.length cR :: cs0) :: Z0) :: [row xb 106 [.pointer (some ⟨rb, 0, none⟩), .slice LA (l.length - p) LC, .int .i64 (y : Int)]] :: (((qs.map (rxS l)).eraseIdx i).flatten) :: XR :: [row b1 38 [.int .i64 o.kind, .int .i64 o.at_, .int .u64 (o.v.n : Int), .int .i64 o.many, .bool o.v.b, .slice o.dA o.v.ds.length o.dC, .slice o.qA o.ps.length o.qC, .slice o.pA o.v.p.length o.pC, strV o.v.s, .slice o.sA o.v.ss.length o.sC, .int .i64 o.most, .int .i64 o.each]] :: R) x.drew := Hp.ord [[row xb 106 [.pointer (some ⟨rb, 0, none⟩), .slice LA (l.length - p) LC, .int .i64 (y : Int)]], [row rb 95 [.slice A l.length c, .int .i64 (p : Int), .int .i64 (y : Int)]], X, (((qs.map (rxS l)).eraseIdx i).flatten), (row sb 68 (bv :: .slice (some ⟨bR, pR, none⟩) qs.length cR :: cs0) :: Z0), XR, [row b1 38 [.int .i64 o.kind, .int .i64 o.at_, .int .u64 (o.v.n : Int), .int .i64 o.many, .bool o.v.b, .slice o.dA o.v.ds.length o.dC, .slice o.qA o.ps.length o.qC, .slice o.pA o.v.p.length o.pC, strV o.v.s, .slice o.sA o.v.ss.length o.sC, .int .i64 o.most, .int .i64 o.each]]] R [1, 2, 4, 0, 3, 5, 6] hA72 rfl
                        refine vp_l rfl rfl rfl (fun K hK => ws_call hF rfl (by decide) cl62_rx rfl rfl ?_)
                        with_reducible refine (rx_spellsN w0 _ ([row xb 106 [.pointer (some ⟨rb, 0, none⟩), .slice LA (l.length - p) LC, .int .i64 (y : Int)]] :: (((qs.map (rxS l)).eraseIdx i).flatten) :: XR :: [row b1 38 [.int .i64 o.kind, .int .i64 o.at_, .int .u64 (o.v.n : Int), .int .i64 o.many, .bool o.v.b, .slice o.dA o.v.ds.length o.dC, .slice o.qA o.ps.length o.qC, .slice o.pA o.v.p.length o.pC, strV o.v.s, .slice o.sA o.v.ss.length o.sC, .int .i64 o.most, .int .i64 o.each]] :: R) sb rb bv _ _ hS A l c p y X o hmany LB m LD hm hLD (hLB0.mono (subC (subC (subC (subC (sub0)))))) hO hA73 hp hl ).mono ?_
                        rintro e' w74 ⟨k, e, p', y', YS', rfl, hst, hS', hA75⟩
                        refine ⟨_, rfl, fun a hF => hK _ _ (fun _ => ?_) ?_⟩
                        · exact Hp.qp [[row rb 95 [.slice A l.length c, .int .i64 (p' : Int), .int .i64 (y' : Int)]], X, YS', [row xb 106 [.pointer (some ⟨rb, 0, none⟩), .slice LA (l.length - p) LC, .int .i64 (y : Int)]], (((qs.map (rxS l)).eraseIdx i).flatten), XR, [row b1 38 [.int .i64 o.kind, .int .i64 o.at_, .int .u64 (o.v.n : Int), .int .i64 o.many, .bool o.v.b, .slice o.dA o.v.ds.length o.dC, .slice o.qA o.ps.length o.qC, .slice o.pA o.v.p.length o.pC, strV o.v.s, .slice o.sA o.v.ss.length o.sC, .int .i64 o.most, .int .i64 o.each]]] R [3, 4, 5, 6] hA75
                        clear hK K
                        replace hA75 : Hp w0 ([row rb 95 [.slice A l.length c, .int .i64 (p' : Int), .int .i64 (y' : Int)]] :: X :: YS' :: [row xb 106 [.pointer (some ⟨rb, 0, none⟩), .slice LA (l.length - p) LC, .int .i64 (y : Int)]] :: (((qs.map (rxS l)).eraseIdx i).flatten) :: XR :: [row b1 38 [.int .i64 o.kind, .int .i64 o.at_, .int .u64 (o.v.n : Int), .int .i64 o.many, .bool o.v.b, .slice o.dA o.v.ds.length o.dC, .slice o.qA o.ps.length o.qC, .slice o.pA o.v.p.length o.pC, strV o.v.s, .slice o.sA o.v.ss.length o.sC, .int .i64 o.most, .int .i64 o.each]] :: R) w74 := hA75
                        refine vp_y hF rfl rfl rfl rfl (by decide) _ (fun x hx => y_move rfl rfl) (fun a hF => ?_)
                        refine vp_y hF rfl rfl rfl rfl (by decide) _ (fun x hx => y_extract (v := .bool true) rfl rfl rfl) (fun a hF => ?_)
                        refine vp_y hF rfl rfl rfl rfl (by decide) _ (fun x hx => y_extract (v := .int .i64 (k : Int)) rfl rfl rfl) (fun a hF => ?_)
                        refine vp_y hF rfl rfl rfl rfl (by decide) _ (fun x hx => y_extract (v := .int .i64 (e : Int)) rfl rfl rfl) (fun a hF => ?_)
                        refine vp_y hF rfl rfl rfl rfl (by decide) _ (fun x hx => y_assign rfl rfl) (fun a hF => ?_)
                        refine vp_y hF rfl rfl rfl rfl (by decide) _ (fun x hx => y_assign rfl rfl) (fun a hF => ?_)
                        refine vp_ly hF rfl rfl rfl rfl (by decide) _ (y_assign rfl rfl) (fun h => absurd h (by decide)) (fun a hF => ?_)
                        refine plan_end ?_
                        have hA76 : Hp w0 ([row xb 106 [.pointer (some ⟨rb, 0, none⟩), .slice LA (l.length - p) LC, .int .i64 (y : Int)]] :: [row rb 95 [.slice A l.length c, .int .i64 (p' : Int), .int .i64 (y' : Int)]] :: X :: YS' :: (((qs.map (rxS l)).eraseIdx i).flatten) :: XR :: [row b1 38 [.int .i64 o.kind, .int .i64 o.at_, .int .u64 (o.v.n : Int), .int .i64 o.many, .bool o.v.b, .slice o.dA o.v.ds.length o.dC, .slice o.qA o.ps.length o.qC, .slice o.pA o.v.p.length o.pC, strV o.v.s, .slice o.sA o.v.ss.length o.sC, .int .i64 o.most, .int .i64 o.each]] :: R) w74 := Hp.ord [[row rb 95 [.slice A l.length c, .int .i64 (p' : Int), .int .i64 (y' : Int)]], X, YS', [row xb 106 [.pointer (some ⟨rb, 0, none⟩), .slice LA (l.length - p) LC, .int .i64 (y : Int)]], (((qs.map (rxS l)).eraseIdx i).flatten), XR, [row b1 38 [.int .i64 o.kind, .int .i64 o.at_, .int .u64 (o.v.n : Int), .int .i64 o.many, .bool o.v.b, .slice o.dA o.v.ds.length o.dC, .slice o.qA o.ps.length o.qC, .slice o.pA o.v.p.length o.pC, strV o.v.s, .slice o.sA o.v.ss.length o.sC, .int .i64 o.most, .int .i64 o.each]]] R [3, 0, 1, 2, 4, 5, 6] hA75 rfl
                        exact tail2 _ _ p' y' k e YS' hst hS' (hF.keep [7, 8, 9, 0, 5] rfl) hA76
                      · refine vc_falseB hF rfl (eql_f (by omega)) ?_
                        apply wp_seq_k; intro K55 hK55
                        refine wp_region_lit ?_
                        refine vc_y hF rfl rfl (by decide) _ (y_cmp rfl rfl rfl rfl rfl) (fun a hF => ?_)
                        refine vc_y hF rfl rfl (by decide) _ (y_assign rfl rfl) (fun a hF => ?_)
                        refine vc_nil ?_
                        refine hK55 _ _ ?_; clear  hK55 K55
                        by_cases k9 : o.kind = 9
                        · refine vc_trueB hF rfl (eql_t (by omega)) ?_
                          apply wp_skip
                          refine hK53 _ _ ?_; clear  hK53 K53
                          refine vc_trueB hF rfl (eql_t (by omega)) ?_
                          refine wp_region_plan 14 [7,14] [0,1,2,3,4,5,6,7,8,9,10,11,12,13,14] (fun x => Hq w0 ([row xb 106 [.pointer (some ⟨rb, 0, none⟩), .slice LA (l.length - p) LC, .int .i64 (y : Int)]] :: (((qs.map (rxS l)).eraseIdx i).flatten) :: XR :: [row b1 38 [.int .i64 o.kind, .int .i64 o.at_, .int .u64 (o.v.n : Int), .int .i64 o.many, .bool o.v.b, .slice o.dA o.v.ds.length o.dC, .slice o.qA o.ps.length o.qC, .slice o.pA o.v.p.length o.pC, strV o.v.s, .slice o.sA o.v.ss.length o.sC, .int .i64 o.most, .int .i64 o.each]] :: R) x) (by kernel_rfl) (by kernel_rfl) (Hq.drew (Hp.qp [[row xb 106 [.pointer (some ⟨rb, 0, none⟩), .slice LA (l.length - p) LC, .int .i64 (y : Int)]], [row rb 95 [.slice A l.length c, .int .i64 (p : Int), .int .i64 (y : Int)]], X, (((qs.map (rxS l)).eraseIdx i).flatten), (row sb 68 (bv :: .slice (some ⟨bR, pR, none⟩) qs.length cR :: cs0) :: Z0), XR, [row b1 38 [.int .i64 o.kind, .int .i64 o.at_, .int .u64 (o.v.n : Int), .int .i64 o.many, .bool o.v.b, .slice o.dA o.v.ds.length o.dC, .slice o.qA o.ps.length o.qC, .slice o.pA o.v.p.length o.pC, strV o.v.s, .slice o.sA o.v.ss.length o.sC, .int .i64 o.most, .int .i64 o.each]]] R [0, 3, 5, 6] hA)) ?_
                          have hA77 := Hl.drew hA
                          refine vp_y hF rfl rfl rfl rfl (by decide) _ (fun x hx => y_move rfl rfl) (fun a hF => ?_)
                          refine vp_y hF rfl rfl rfl rfl (by decide) _ (fun x hx => y_move rfl rfl) (fun a hF => ?_)
                          refine vp_y hF rfl rfl rfl rfl (by decide) _ (fun x hx => y_nilCheck rfl rfl) (fun a hF => ?_)
                          refine vp_y hF rfl rfl rfl rfl (by decide) _ (fun x hx => y_field rfl Try.underlying106 rfl sz53_rx (by decide) rfl (rfl : (⟨_, 0 + _, none⟩ : Addr) = ⟨_, 0, none⟩)) (fun a hF => ?_)
                          refine vp_y hF rfl rfl rfl rfl (by decide) _ (fun x hx => y_ld rfl hx rfl 0 rfl rfl nr53_rx) (fun a hF => ?_)
                          refine vp_y hF rfl rfl rfl rfl (by decide) _ (fun x hx => y_move rfl rfl) (fun a hF => ?_)
                          refine vp_y hF rfl rfl rfl rfl (by decide) _ (fun x hx => y_ldRow (new := opC o) rfl hx rfl 3 rfl rw38_rx (Nat.le_of_ble_eq_true rfl) rfl) (fun a hF => ?_)
                          have hA78 : Hp w0 ([row rb 95 [.slice A l.length c, .int .i64 (p : Int), .int .i64 (y : Int)]] :: X :: (row sb 68 (bv :: .slice (some ⟨bR, pR, none⟩) qs.length cR :: cs0) :: Z0) :: [row xb 106 [.pointer (some ⟨rb, 0, none⟩), .slice LA (l.length - p) LC, .int .i64 (y : Int)]] :: (((qs.map (rxS l)).eraseIdx i).flatten) :: XR :: [row b1 38 [.int .i64 o.kind, .int .i64 o.at_, .int .u64 (o.v.n : Int), .int .i64 o.many, .bool o.v.b, .slice o.dA o.v.ds.length o.dC, .slice o.qA o.ps.length o.qC, .slice o.pA o.v.p.length o.pC, strV o.v.s, .slice o.sA o.v.ss.length o.sC, .int .i64 o.most, .int .i64 o.each]] :: R) x.drew := Hp.ord [[row xb 106 [.pointer (some ⟨rb, 0, none⟩), .slice LA (l.length - p) LC, .int .i64 (y : Int)]], [row rb 95 [.slice A l.length c, .int .i64 (p : Int), .int .i64 (y : Int)]], X, (((qs.map (rxS l)).eraseIdx i).flatten), (row sb 68 (bv :: .slice (some ⟨bR, pR, none⟩) qs.length cR :: cs0) :: Z0), XR, [row b1 38 [.int .i64 o.kind, .int .i64 o.at_, .int .u64 (o.v.n : Int), .int .i64 o.many, .bool o.v.b, .slice o.dA o.v.ds.length o.dC, .slice o.qA o.ps.length o.qC, .slice o.pA o.v.p.length o.pC, strV o.v.s, .slice o.sA o.v.ss.length o.sC, .int .i64 o.most, .int .i64 o.each]]] R [1, 2, 4, 0, 3, 5, 6] hA77 rfl
                          refine vp_l rfl rfl rfl (fun K hK => ws_call hF rfl (by decide) cl62_rx rfl rfl ?_)
                          with_reducible refine (rx_spellsN w0 _ ([row xb 106 [.pointer (some ⟨rb, 0, none⟩), .slice LA (l.length - p) LC, .int .i64 (y : Int)]] :: (((qs.map (rxS l)).eraseIdx i).flatten) :: XR :: [row b1 38 [.int .i64 o.kind, .int .i64 o.at_, .int .u64 (o.v.n : Int), .int .i64 o.many, .bool o.v.b, .slice o.dA o.v.ds.length o.dC, .slice o.qA o.ps.length o.qC, .slice o.pA o.v.p.length o.pC, strV o.v.s, .slice o.sA o.v.ss.length o.sC, .int .i64 o.most, .int .i64 o.each]] :: R) sb rb bv _ _ hS A l c p y X o hmany LB m LD hm hLD (hLB0.mono (subC (subC (subC (subC (sub0)))))) hO hA78 hp hl ).mono ?_
                          rintro e' w79 ⟨k, e, p', y', YS', rfl, hst, hS', hA80⟩
                          refine ⟨_, rfl, fun a hF => hK _ _ (fun _ => ?_) ?_⟩
                          · exact Hp.qp [[row rb 95 [.slice A l.length c, .int .i64 (p' : Int), .int .i64 (y' : Int)]], X, YS', [row xb 106 [.pointer (some ⟨rb, 0, none⟩), .slice LA (l.length - p) LC, .int .i64 (y : Int)]], (((qs.map (rxS l)).eraseIdx i).flatten), XR, [row b1 38 [.int .i64 o.kind, .int .i64 o.at_, .int .u64 (o.v.n : Int), .int .i64 o.many, .bool o.v.b, .slice o.dA o.v.ds.length o.dC, .slice o.qA o.ps.length o.qC, .slice o.pA o.v.p.length o.pC, strV o.v.s, .slice o.sA o.v.ss.length o.sC, .int .i64 o.most, .int .i64 o.each]]] R [3, 4, 5, 6] hA80
                          clear hK K
                          replace hA80 : Hp w0 ([row rb 95 [.slice A l.length c, .int .i64 (p' : Int), .int .i64 (y' : Int)]] :: X :: YS' :: [row xb 106 [.pointer (some ⟨rb, 0, none⟩), .slice LA (l.length - p) LC, .int .i64 (y : Int)]] :: (((qs.map (rxS l)).eraseIdx i).flatten) :: XR :: [row b1 38 [.int .i64 o.kind, .int .i64 o.at_, .int .u64 (o.v.n : Int), .int .i64 o.many, .bool o.v.b, .slice o.dA o.v.ds.length o.dC, .slice o.qA o.ps.length o.qC, .slice o.pA o.v.p.length o.pC, strV o.v.s, .slice o.sA o.v.ss.length o.sC, .int .i64 o.most, .int .i64 o.each]] :: R) w79 := hA80
                          refine vp_y hF rfl rfl rfl rfl (by decide) _ (fun x hx => y_move rfl rfl) (fun a hF => ?_)
                          refine vp_y hF rfl rfl rfl rfl (by decide) _ (fun x hx => y_extract (v := .bool true) rfl rfl rfl) (fun a hF => ?_)
                          refine vp_y hF rfl rfl rfl rfl (by decide) _ (fun x hx => y_extract (v := .int .i64 (k : Int)) rfl rfl rfl) (fun a hF => ?_)
                          refine vp_y hF rfl rfl rfl rfl (by decide) _ (fun x hx => y_extract (v := .int .i64 (e : Int)) rfl rfl rfl) (fun a hF => ?_)
                          refine vp_y hF rfl rfl rfl rfl (by decide) _ (fun x hx => y_assign rfl rfl) (fun a hF => ?_)
                          refine vp_y hF rfl rfl rfl rfl (by decide) _ (fun x hx => y_assign rfl rfl) (fun a hF => ?_)
                          refine vp_ly hF rfl rfl rfl rfl (by decide) _ (y_assign rfl rfl) (fun h => absurd h (by decide)) (fun a hF => ?_)
                          refine plan_end ?_
                          have hA81 : Hp w0 ([row xb 106 [.pointer (some ⟨rb, 0, none⟩), .slice LA (l.length - p) LC, .int .i64 (y : Int)]] :: [row rb 95 [.slice A l.length c, .int .i64 (p' : Int), .int .i64 (y' : Int)]] :: X :: YS' :: (((qs.map (rxS l)).eraseIdx i).flatten) :: XR :: [row b1 38 [.int .i64 o.kind, .int .i64 o.at_, .int .u64 (o.v.n : Int), .int .i64 o.many, .bool o.v.b, .slice o.dA o.v.ds.length o.dC, .slice o.qA o.ps.length o.qC, .slice o.pA o.v.p.length o.pC, strV o.v.s, .slice o.sA o.v.ss.length o.sC, .int .i64 o.most, .int .i64 o.each]] :: R) w79 := Hp.ord [[row rb 95 [.slice A l.length c, .int .i64 (p' : Int), .int .i64 (y' : Int)]], X, YS', [row xb 106 [.pointer (some ⟨rb, 0, none⟩), .slice LA (l.length - p) LC, .int .i64 (y : Int)]], (((qs.map (rxS l)).eraseIdx i).flatten), XR, [row b1 38 [.int .i64 o.kind, .int .i64 o.at_, .int .u64 (o.v.n : Int), .int .i64 o.many, .bool o.v.b, .slice o.dA o.v.ds.length o.dC, .slice o.qA o.ps.length o.qC, .slice o.pA o.v.p.length o.pC, strV o.v.s, .slice o.sA o.v.ss.length o.sC, .int .i64 o.most, .int .i64 o.each]]] R [3, 0, 1, 2, 4, 5, 6] hA80 rfl
                          exact tail2 _ _ p' y' k e YS' hst hS' (hF.keep [7, 8, 9, 0, 5] rfl) hA81
                        · refine vc_falseB hF rfl (eql_f (by omega)) ?_
                          refine wp_region_lit ?_
                          refine vc_y hF rfl rfl (by decide) _ (y_cmp rfl rfl rfl rfl rfl) (fun a hF => ?_)
                          refine vc_y hF rfl rfl (by decide) _ (y_assign rfl rfl) (fun a hF => ?_)
                          refine vc_nil ?_
                          refine hK53 _ _ ?_; clear  hK53 K53
                          by_cases k10 : o.kind = 10
                          · refine vc_trueB hF rfl (eql_t (by omega)) ?_
                            refine wp_region_plan 14 [7,14] [0,1,2,3,4,5,6,7,8,9,10,11,12,13,14] (fun x => Hq w0 ([row xb 106 [.pointer (some ⟨rb, 0, none⟩), .slice LA (l.length - p) LC, .int .i64 (y : Int)]] :: (((qs.map (rxS l)).eraseIdx i).flatten) :: XR :: [row b1 38 [.int .i64 o.kind, .int .i64 o.at_, .int .u64 (o.v.n : Int), .int .i64 o.many, .bool o.v.b, .slice o.dA o.v.ds.length o.dC, .slice o.qA o.ps.length o.qC, .slice o.pA o.v.p.length o.pC, strV o.v.s, .slice o.sA o.v.ss.length o.sC, .int .i64 o.most, .int .i64 o.each]] :: R) x) (by kernel_rfl) (by kernel_rfl) (Hq.drew (Hp.qp [[row xb 106 [.pointer (some ⟨rb, 0, none⟩), .slice LA (l.length - p) LC, .int .i64 (y : Int)]], [row rb 95 [.slice A l.length c, .int .i64 (p : Int), .int .i64 (y : Int)]], X, (((qs.map (rxS l)).eraseIdx i).flatten), (row sb 68 (bv :: .slice (some ⟨bR, pR, none⟩) qs.length cR :: cs0) :: Z0), XR, [row b1 38 [.int .i64 o.kind, .int .i64 o.at_, .int .u64 (o.v.n : Int), .int .i64 o.many, .bool o.v.b, .slice o.dA o.v.ds.length o.dC, .slice o.qA o.ps.length o.qC, .slice o.pA o.v.p.length o.pC, strV o.v.s, .slice o.sA o.v.ss.length o.sC, .int .i64 o.most, .int .i64 o.each]]] R [0, 3, 5, 6] hA)) ?_
                            have hA82 := Hl.drew hA
                            refine vp_y hF rfl rfl rfl rfl (by decide) _ (fun x hx => y_move rfl rfl) (fun a hF => ?_)
                            refine vp_y hF rfl rfl rfl rfl (by decide) _ (fun x hx => y_move rfl rfl) (fun a hF => ?_)
                            refine vp_y hF rfl rfl rfl rfl (by decide) _ (fun x hx => y_nilCheck rfl rfl) (fun a hF => ?_)
                            refine vp_y hF rfl rfl rfl rfl (by decide) _ (fun x hx => y_field rfl Try.underlying106 rfl sz53_rx (by decide) rfl (rfl : (⟨_, 0 + _, none⟩ : Addr) = ⟨_, 0, none⟩)) (fun a hF => ?_)
                            refine vp_y hF rfl rfl rfl rfl (by decide) _ (fun x hx => y_ld rfl hx rfl 0 rfl rfl nr53_rx) (fun a hF => ?_)
                            refine vp_y hF rfl rfl rfl rfl (by decide) _ (fun x hx => y_move rfl rfl) (fun a hF => ?_)
                            refine vp_y hF rfl rfl rfl rfl (by decide) _ (fun x hx => y_ldRow (new := opC o) rfl hx rfl 3 rfl rw38_rx (Nat.le_of_ble_eq_true rfl) rfl) (fun a hF => ?_)
                            have hA83 : Hp w0 ([row rb 95 [.slice A l.length c, .int .i64 (p : Int), .int .i64 (y : Int)]] :: X :: (row sb 68 (bv :: .slice (some ⟨bR, pR, none⟩) qs.length cR :: cs0) :: Z0) :: [row xb 106 [.pointer (some ⟨rb, 0, none⟩), .slice LA (l.length - p) LC, .int .i64 (y : Int)]] :: (((qs.map (rxS l)).eraseIdx i).flatten) :: XR :: [row b1 38 [.int .i64 o.kind, .int .i64 o.at_, .int .u64 (o.v.n : Int), .int .i64 o.many, .bool o.v.b, .slice o.dA o.v.ds.length o.dC, .slice o.qA o.ps.length o.qC, .slice o.pA o.v.p.length o.pC, strV o.v.s, .slice o.sA o.v.ss.length o.sC, .int .i64 o.most, .int .i64 o.each]] :: R) x.drew := Hp.ord [[row xb 106 [.pointer (some ⟨rb, 0, none⟩), .slice LA (l.length - p) LC, .int .i64 (y : Int)]], [row rb 95 [.slice A l.length c, .int .i64 (p : Int), .int .i64 (y : Int)]], X, (((qs.map (rxS l)).eraseIdx i).flatten), (row sb 68 (bv :: .slice (some ⟨bR, pR, none⟩) qs.length cR :: cs0) :: Z0), XR, [row b1 38 [.int .i64 o.kind, .int .i64 o.at_, .int .u64 (o.v.n : Int), .int .i64 o.many, .bool o.v.b, .slice o.dA o.v.ds.length o.dC, .slice o.qA o.ps.length o.qC, .slice o.pA o.v.p.length o.pC, strV o.v.s, .slice o.sA o.v.ss.length o.sC, .int .i64 o.most, .int .i64 o.each]]] R [1, 2, 4, 0, 3, 5, 6] hA82 rfl
                            refine vp_l rfl rfl rfl (fun K hK => ws_call hF rfl (by decide) cl62_rx rfl rfl ?_)
                            with_reducible refine (rx_spellsN w0 _ ([row xb 106 [.pointer (some ⟨rb, 0, none⟩), .slice LA (l.length - p) LC, .int .i64 (y : Int)]] :: (((qs.map (rxS l)).eraseIdx i).flatten) :: XR :: [row b1 38 [.int .i64 o.kind, .int .i64 o.at_, .int .u64 (o.v.n : Int), .int .i64 o.many, .bool o.v.b, .slice o.dA o.v.ds.length o.dC, .slice o.qA o.ps.length o.qC, .slice o.pA o.v.p.length o.pC, strV o.v.s, .slice o.sA o.v.ss.length o.sC, .int .i64 o.most, .int .i64 o.each]] :: R) sb rb bv _ _ hS A l c p y X o hmany LB m LD hm hLD (hLB0.mono (subC (subC (subC (subC (sub0)))))) hO hA83 hp hl ).mono ?_
                            rintro e' w84 ⟨k, e, p', y', YS', rfl, hst, hS', hA85⟩
                            refine ⟨_, rfl, fun a hF => hK _ _ (fun _ => ?_) ?_⟩
                            · exact Hp.qp [[row rb 95 [.slice A l.length c, .int .i64 (p' : Int), .int .i64 (y' : Int)]], X, YS', [row xb 106 [.pointer (some ⟨rb, 0, none⟩), .slice LA (l.length - p) LC, .int .i64 (y : Int)]], (((qs.map (rxS l)).eraseIdx i).flatten), XR, [row b1 38 [.int .i64 o.kind, .int .i64 o.at_, .int .u64 (o.v.n : Int), .int .i64 o.many, .bool o.v.b, .slice o.dA o.v.ds.length o.dC, .slice o.qA o.ps.length o.qC, .slice o.pA o.v.p.length o.pC, strV o.v.s, .slice o.sA o.v.ss.length o.sC, .int .i64 o.most, .int .i64 o.each]]] R [3, 4, 5, 6] hA85
                            clear hK K
                            replace hA85 : Hp w0 ([row rb 95 [.slice A l.length c, .int .i64 (p' : Int), .int .i64 (y' : Int)]] :: X :: YS' :: [row xb 106 [.pointer (some ⟨rb, 0, none⟩), .slice LA (l.length - p) LC, .int .i64 (y : Int)]] :: (((qs.map (rxS l)).eraseIdx i).flatten) :: XR :: [row b1 38 [.int .i64 o.kind, .int .i64 o.at_, .int .u64 (o.v.n : Int), .int .i64 o.many, .bool o.v.b, .slice o.dA o.v.ds.length o.dC, .slice o.qA o.ps.length o.qC, .slice o.pA o.v.p.length o.pC, strV o.v.s, .slice o.sA o.v.ss.length o.sC, .int .i64 o.most, .int .i64 o.each]] :: R) w84 := hA85
                            refine vp_y hF rfl rfl rfl rfl (by decide) _ (fun x hx => y_move rfl rfl) (fun a hF => ?_)
                            refine vp_y hF rfl rfl rfl rfl (by decide) _ (fun x hx => y_extract (v := .bool true) rfl rfl rfl) (fun a hF => ?_)
                            refine vp_y hF rfl rfl rfl rfl (by decide) _ (fun x hx => y_extract (v := .int .i64 (k : Int)) rfl rfl rfl) (fun a hF => ?_)
                            refine vp_y hF rfl rfl rfl rfl (by decide) _ (fun x hx => y_extract (v := .int .i64 (e : Int)) rfl rfl rfl) (fun a hF => ?_)
                            refine vp_y hF rfl rfl rfl rfl (by decide) _ (fun x hx => y_assign rfl rfl) (fun a hF => ?_)
                            refine vp_y hF rfl rfl rfl rfl (by decide) _ (fun x hx => y_assign rfl rfl) (fun a hF => ?_)
                            refine vp_ly hF rfl rfl rfl rfl (by decide) _ (y_assign rfl rfl) (fun h => absurd h (by decide)) (fun a hF => ?_)
                            refine plan_end ?_
                            have hA86 : Hp w0 ([row xb 106 [.pointer (some ⟨rb, 0, none⟩), .slice LA (l.length - p) LC, .int .i64 (y : Int)]] :: [row rb 95 [.slice A l.length c, .int .i64 (p' : Int), .int .i64 (y' : Int)]] :: X :: YS' :: (((qs.map (rxS l)).eraseIdx i).flatten) :: XR :: [row b1 38 [.int .i64 o.kind, .int .i64 o.at_, .int .u64 (o.v.n : Int), .int .i64 o.many, .bool o.v.b, .slice o.dA o.v.ds.length o.dC, .slice o.qA o.ps.length o.qC, .slice o.pA o.v.p.length o.pC, strV o.v.s, .slice o.sA o.v.ss.length o.sC, .int .i64 o.most, .int .i64 o.each]] :: R) w84 := Hp.ord [[row rb 95 [.slice A l.length c, .int .i64 (p' : Int), .int .i64 (y' : Int)]], X, YS', [row xb 106 [.pointer (some ⟨rb, 0, none⟩), .slice LA (l.length - p) LC, .int .i64 (y : Int)]], (((qs.map (rxS l)).eraseIdx i).flatten), XR, [row b1 38 [.int .i64 o.kind, .int .i64 o.at_, .int .u64 (o.v.n : Int), .int .i64 o.many, .bool o.v.b, .slice o.dA o.v.ds.length o.dC, .slice o.qA o.ps.length o.qC, .slice o.pA o.v.p.length o.pC, strV o.v.s, .slice o.sA o.v.ss.length o.sC, .int .i64 o.most, .int .i64 o.each]]] R [3, 0, 1, 2, 4, 5, 6] hA85 rfl
                            exact tail2 _ _ p' y' k e YS' hst hS' (hF.keep [7, 8, 9, 0, 5] rfl) hA86
                          · refine vc_falseB hF rfl (eql_f (by omega)) ?_
                            apply wp_skip
                            have hA87 : Hp w0 ([row xb 106 [.pointer (some ⟨rb, 0, none⟩), .slice LA (l.length - p) LC, .int .i64 (y : Int)]] :: [row rb 95 [.slice A l.length c, .int .i64 (p : Int), .int .i64 (y : Int)]] :: X :: (row sb 68 (bv :: .slice (some ⟨bR, pR, none⟩) qs.length cR :: cs0) :: Z0) :: (((qs.map (rxS l)).eraseIdx i).flatten) :: XR :: [row b1 38 [.int .i64 o.kind, .int .i64 o.at_, .int .u64 (o.v.n : Int), .int .i64 o.many, .bool o.v.b, .slice o.dA o.v.ds.length o.dC, .slice o.qA o.ps.length o.qC, .slice o.pA o.v.p.length o.pC, strV o.v.s, .slice o.sA o.v.ss.length o.sC, .int .i64 o.most, .int .i64 o.each]] :: R) x := Hp.ord [[row xb 106 [.pointer (some ⟨rb, 0, none⟩), .slice LA (l.length - p) LC, .int .i64 (y : Int)]], [row rb 95 [.slice A l.length c, .int .i64 (p : Int), .int .i64 (y : Int)]], X, (((qs.map (rxS l)).eraseIdx i).flatten), (row sb 68 (bv :: .slice (some ⟨bR, pR, none⟩) qs.length cR :: cs0) :: Z0), XR, [row b1 38 [.int .i64 o.kind, .int .i64 o.at_, .int .u64 (o.v.n : Int), .int .i64 o.many, .bool o.v.b, .slice o.dA o.v.ds.length o.dC, .slice o.qA o.ps.length o.qC, .slice o.pA o.v.p.length o.pC, strV o.v.s, .slice o.sA o.v.ss.length o.sC, .int .i64 o.most, .int .i64 o.each]]] R [0, 1, 2, 4, 3, 5, 6] hA rfl
                            exact tail2 _ _ p y 0 0 _ ⟨hp, fun h => ⟨h.symm, fun _ => rfl⟩, fun _ => rfl, fun _ => rfl⟩ hS (hF.keep [7, 8, 9, 0, 5] rfl) hA87
    by_cases hy : y = 0
    · refine vc_falseB hF rfl (neq_f (by omega)) ?_
      apply wp_skip
      exact tail1 _ _ LA (l.length - p) LC (by rw [leftOf, if_pos hy, List.length_drop]) (by rw [leftOf, if_pos hy, List.length_drop]; exact hLC) (by rw [leftOf, if_pos hy]; exact hLA) (hF.keep [6, 0, 3, 5] rfl) hA12
    · refine vc_trueB hF rfl (neq_t (by omega)) ?_
      refine wp_region_lit ?_
      refine vc_y hF rfl rfl (by decide) _ (y_assign rfl rfl) (fun a hF => ?_)
      refine vc_nil ?_
      exact tail1 _ _ none 0 0 (by rw [leftOf, if_neg hy]; rfl) (by rw [leftOf, if_neg hy]; exact Nat.le_refl _) (by rw [leftOf, if_neg hy]; exact Rc.nil) (hF.keep [6, 0, 3, 5] rfl) hA12
end Go.Proofs.Ythphfbohhbkdgaa
