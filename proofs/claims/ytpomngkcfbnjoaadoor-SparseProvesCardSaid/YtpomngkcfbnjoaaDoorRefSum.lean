/- The walk of the reference's Sum: SHA-256 in rings. -/
import Derived.Test.YtpomngkcfbnjoaaDoorRefNum
import Derived.Test.YtpomngkcfbnjoaaDoorVc
namespace Go.Proofs.YtpomngkcfbnjoaaDoor
open Go.RowKit Go.Dk

theorem zero81 : zeroIs Tryd.prog 134 (.agg (wc (List.replicate 8 0)).toArray) := by unfold zeroIs; kernel_rfl
theorem zero92 : zeroIs Tryd.prog 135 (.agg (wc (List.replicate 16 0)).toArray) := by unfold zeroIs; kernel_rfl
theorem size81 : (Tryd.prog.info? 134).map (·.size) = some 8 := by kernel_rfl
theorem wc_fill (l : List Nat) (i n : Nat) (h : i < l.length) : (wc (l.take i ++ List.replicate (n + 1) 0)).set i (.int .u32 (wAt l i : Nat)) = wc (l.take (i + 1) ++ List.replicate n 0) := by
  rw [wc_set]
  congr 1
  have e : l.take (i + 1) = l.take i ++ [wAt l i] := by
    rw [List.take_succ_eq_append_getElem h]
    congr 2
    unfold wAt
    rw [List.getElem?_eq_getElem h]; rfl
  rw [List.set_append, if_neg (by rw [List.length_take]; omega), List.length_take, show i - min i l.length = 0 by omega, e, List.replicate_succ, List.append_assoc]
  rfl
theorem nums_ks (i : Nat) (h : i < 64) : wAt nums i = wAt ks i := by
  unfold nums wAt
  rw [List.getElem?_append_left (by exact h)]
theorem nums_init (i : Nat) : wAt nums (64 + i) = wAt init8 i := by
  unfold nums wAt
  rw [List.getElem?_append_right (by show 64 ≤ 64 + i; omega)]
  congr 2
  show 64 + i - 64 = i
  omega
theorem sig0_int (x : Nat) (hx : x < 4294967296) : bits .xor .u32 (bits .xor .u32 (rotr x 7 : Nat) (rotr x 18 : Nat)) ((x : Int) / 8) = (sig0 x : Nat) := by
  rw [show (x : Int) / 8 = ((x / 2 ^ 3 : Nat) : Int) by omega, sig_int x 7 18 _ hx]; rfl
theorem sig1_int (x : Nat) (hx : x < 4294967296) : bits .xor .u32 (bits .xor .u32 (rotr x 17 : Nat) (rotr x 19 : Nat)) ((x : Int) / 1024) = (sig1 x : Nat) := by
  rw [show (x : Int) / 1024 = ((x / 2 ^ 10 : Nat) : Int) by omega, sig_int x 17 19 _ hx]; rfl
theorem Sig1_int (x : Nat) (hx : x < 4294967296) : bits .xor .u32 (bits .xor .u32 (rotr x 6 : Nat) (rotr x 11 : Nat)) (rotr x 25 : Nat) = (Sig1 x : Nat) := big_int x 6 11 25 hx
theorem Sig0_int (x : Nat) (hx : x < 4294967296) : bits .xor .u32 (bits .xor .u32 (rotr x 2 : Nat) (rotr x 13 : Nat)) (rotr x 22 : Nat) = (Sig0 x : Nat) := big_int x 2 13 22 hx
theorem rch_int (e f g : Nat) (he : e < 4294967296) (hf : f < 4294967296) (hg : g < 4294967296) : bits .xor .u32 (g : Int) (bits .and .u32 (e : Int) (bits .xor .u32 (f : Int) (g : Int))) = (chN e f g : Nat) := by
  have h1 : f ^^^ g < 2 ^ 32 := Nat.xor_lt_two_pow (n := 32) hf hg
  rw [u32_xor_nat f g hf hg, u32_and_nat e _ he h1, u32_xor_nat g _ hg (Nat.lt_of_le_of_lt Nat.and_le_left he), ch_eq e f g hg]
theorem rmaj_int (a b c : Nat) (ha : a < 4294967296) (hb : b < 4294967296) (hc : c < 4294967296) : bits .or .u32 (bits .and .u32 (a : Int) (b : Int)) (bits .and .u32 (c : Int) (bits .or .u32 (a : Int) (b : Int))) = (majN a b c : Nat) := by
  have h1 : a ||| b < 2 ^ 32 := Nat.or_lt_two_pow (n := 32) ha hb
  rw [u32_and_nat a b ha hb, u32_or_nat a b ha hb, u32_and_nat c _ hc h1, u32_or_nat _ _ (Nat.lt_of_le_of_lt Nat.and_le_left ha) (Nat.lt_of_le_of_lt Nat.and_le_left hc), maj_eq]
theorem step_e (s : St) (k w : Nat) : (s.step k w).e = add32 s.d (s.x k w) := rfl
theorem step_a (s : St) (k w : Nat) : (s.step k w).a = add32 (add32 (s.x k w) (Sig0 s.a)) (majN s.a s.b s.c) := by
  show add32 (s.x k w) s.y = _
  unfold St.y add32; omega
theorem right_at (x : Nat) (m : Int) (n : Nat) (hm : m = n) (hx : x < 4294967296) (hn : 0 < n) (h32 : n < 32) (w : World) :
    Calls Tryd.prog 81 #[.int .u32 x, .int .i64 m] w fun e w' => e = .returned (.int .u32 (rotr x n : Nat)) ∧ w = w' := by
  subst hm; exact right_any x n hx hn h32 w
theorem byteAt_at (w : World) (A : Option Addr) (l : List UInt8) (c n i whole bt : Nat) (iv wv : Int) (hiv : iv = i) (hwv : wv = whole) (hn : n = l.length) (hB : Bts w A l) (hl : n < 281474976710656) (hw : whole = wholeN n) (hi : i < whole) (hbt : bt = (bAt (padded l) i).toNat) :
    Calls Tryd.prog 80 #[.slice A n c, .int .i64 iv, .int .i64 wv] w fun e w' => e = .returned (.int .u8 (bt : Int)) ∧ w = w' := by
  subst hiv hwv hbt
  exact byteAt_any w A l c n i whole hn hB hl hw hi
/-- the blocks' heads may be cut off: all are new -/
theorem blk_at (P : List UInt8) (j i : Nat) (h : i < 64) : bAt ((P.drop (64 * j)).take 64) i = bAt P (64 * j + i) := by rw [bAt_take h, bAt_drop]

theorem ring_m (N : Int) (n t : Nat) (hN : N = n) (ht : t < 64) (hn : 64 ≤ n) : (N - t).tmod 8 = (((n - t) % 8 : Nat) : Int) := by
  subst hN; rw [Int.tmod_eq_emod_of_nonneg (by omega)]; omega
theorem ring_s (N : Int) (n t : Nat) (hN : N = n) (ht : t < 64) (hn : n < 100) : IntKind.i64.wrap (N - t) = N - t := by subst hN; exact IntWalk.i64_in _ (by omega)
theorem ringw_m (N : Int) (n t : Nat) (hN : N = n) : ((t : Int) + N).tmod 16 = (((t + n) % 16 : Nat) : Int) := by
  subst hN; rw [Int.tmod_eq_emod_of_nonneg (by omega)]; omega
theorem ringw_0 (t : Nat) : (t : Int).tmod 16 = ((t % 16 : Nat) : Int) := by rw [Int.tmod_eq_emod_of_nonneg (by omega)]; omega
theorem ringw_s (N : Int) (n t : Nat) (hN : N = n) (ht : t < 64) (hn : n < 100) : IntKind.i64.wrap ((t : Int) + N) = (t : Int) + N := by subst hN; exact IntWalk.i64_in _ (by omega)
theorem ring_c (t : Nat) (s : St) (n j : Nat) (hn : n = 64 + j) (ht : t < 64) (hj : j < 8) : (wc (ringL t s))[(n - t) % 8]? = some (.int .u32 (wAt s.list j : Nat)) := by
  subst hn
  rw [wc_at (by rw [ringL_length]; exact Nat.mod_lt _ (by decide)), ringL_read t s j (by omega) hj]
theorem ringw_c (t : Nat) (V : List Nat) (j : Nat) (h16 : ¬ t < 16) (ht : t < 64) (hj : j < 16) : (wc (ringW (max t 16) V))[(t + j) % 16]? = some (.int .u32 (wAt V (t - 16 + j) : Nat)) := by
  rw [wc_at (by rw [ringW_length]; exact Nat.mod_lt _ (by decide)), show max t 16 = t by omega, ringW_read t V j (by omega) (by omega) hj]
theorem ringw_now (t : Nat) (V : List Nat) (ht : t < 64) : (wc (ringW (max (t + 1) 16) V))[t % 16]? = some (.int .u32 (wAt V t : Nat)) := by
  rw [wc_at (by rw [ringW_length]; exact Nat.mod_lt _ (by decide))]
  by_cases h16 : t < 16
  · rw [show max (t + 1) 16 = 16 by omega, ringW_first t V h16]
  · rw [show max (t + 1) 16 = t + 1 by omega, ringW_cur t V (by omega) ht]
theorem ringw_put (t : Nat) (V : List Nat) (h16 : ¬ t < 16) (ht : t < 64) : (wc (ringW (max t 16) V)).set (t % 16) (.int .u32 (wAt V t : Nat)) = wc (ringW (max (t + 1) 16) V) := by
  rw [wc_set, show max t 16 = t by omega, show max (t + 1) 16 = t + 1 by omega, ringW_put t V (by omega) ht _ rfl]
theorem ringl_put (t : Nat) (s : St) (k w : Nat) (ht : t < 64) : ((wc (ringL t s)).set ((67 - t) % 8) (.int .u32 (add32 s.d (s.x k w) : Nat))).set ((71 - t) % 8) (.int .u32 (add32 (add32 (s.x k w) (Sig0 s.a)) (majN s.a s.b s.c) : Nat)) = wc (ringL (t + 1) (s.step k w)) := by
  rw [wc_set, wc_set, ringL_put t s _ _ k w ht (step_e s k w).symm (step_a s k w).symm]
theorem word_put (B : List UInt8) (i : Nat) (hi : i < 64) : (wc (wpart B i)).set (i / 4) (.int .u32 ((wAt (wpart B i) (i / 4) * 256 % 4294967296 ||| (bAt B i).toNat : Nat) : Int)) = wc (wpart B (i + 1)) := by
  rw [wc_set, wpart_put B i _ hi rfl]
theorem shl8_int (p : Nat) : IntKind.u32.wrap ((p : Int) * 2 ^ min (8 : Int).toNat IntKind.u32.bits) = ((p * 256 % 4294967296 : Nat) : Int) := by
  rw [IntKind.wrap_u32', show min (8 : Int).toNat IntKind.u32.bits = 8 by decide]; omega
theorem or8_int (p : Nat) (b : UInt8) : bits .or .u32 ((p * 256 % 4294967296 : Nat) : Int) (b.toNat : Int) = ((p * 256 % 4294967296 ||| b.toNat : Nat) : Int) := by
  have := b.toNat_lt
  exact u32_or_nat _ _ (Nat.mod_lt _ (by decide)) (by omega)
theorem div4_int (i : Nat) : IntKind.i64.wrap ((i : Int).tdiv 4) = ((i / 4 : Nat) : Int) ∨ 64 ≤ i := by
  by_cases h : i < 64
  · left
    rw [Int.tdiv_eq_ediv_of_nonneg (by omega), IntWalk.i64_in _ (by omega)]; omega
  · right; omega
theorem div4_lt (i : Nat) (h : i < 64) : IntKind.i64.wrap ((i : Int).tdiv 4) = ((i / 4 : Nat) : Int) := (div4_int i).resolve_right (by omega)
theorem mod4_int (i : Nat) : (i : Int).tmod 4 = ((i % 4 : Nat) : Int) := by rw [Int.tmod_eq_emod_of_nonneg (by omega)]; omega
theorem shr3_int (x : Nat) : (x : Int).fdiv (2 ^ min (3 : Int).toNat IntKind.u32.bits) = (x : Int) / 8 := by
  rw [show min (3 : Int).toNat IntKind.u32.bits = 3 by decide, Int.fdiv_eq_ediv_of_nonneg _ (by decide)]; rfl
theorem shr10_int (x : Nat) : (x : Int).fdiv (2 ^ min (10 : Int).toNat IntKind.u32.bits) = (x : Int) / 1024 := by
  rw [show min (10 : Int).toNat IntKind.u32.bits = 10 by decide, Int.fdiv_eq_ediv_of_nonneg _ (by decide)]; rfl
theorem out_int (v m : Nat) (hm : m < 4) : IntKind.u8.wrap ((v : Int).fdiv (2 ^ min (24 - 8 * (m : Int)).toNat IntKind.u32.bits)) = ((v / 256 ^ (3 - m) : Nat) % 256 : Int) := by
  have h1 : min (24 - 8 * (m : Int)).toNat IntKind.u32.bits = 8 * (3 - m) := by
    rw [show IntKind.u32.bits = 32 from rfl]; omega
  rw [h1, Int.fdiv_eq_ediv_of_nonneg _ (Int.pow_nonneg (by decide)), IntKind.wrap_u8]
  exact shr256 v (3 - m) (8 * (3 - m)) rfl
theorem wrap_byte32 (b : UInt8) : IntKind.u32.wrap (b.toNat : Int) = (b.toNat : Int) := by rw [IntKind.wrap_u32']; have := b.toNat_lt; omega
theorem ob_put (st : List Nat) (h : st.length = 8) (i : Nat) (hi : i < 32) : (dc (ob st i)).set i (.int .u8 ((wAt st (i / 4) / 256 ^ (3 - i % 4) : Nat) % 256 : Int)) = dc (ob st (i + 1)) := by
  have h0 := ob_step st h (i / 4) (i % 4) (by omega) (by omega)
  rw [← Nat.add_assoc, show 4 * (i / 4) + i % 4 = i by omega] at h0
  exact h0

theorem ringL_start (V st : List Nat) (h : st.length = 8) : ringL 0 (rounds V (St.of st) 0) = st := by
  apply ext_wAt
  · rw [ringL_length, h]
  · intro i hi
    have hi8 : i < 8 := by omega
    rw [ringL_at _ _ _ hi8, show (i + 0) % 8 = i by omega]
    have : i = 0 ∨ i = 1 ∨ i = 2 ∨ i = 3 ∨ i = 4 ∨ i = 5 ∨ i = 6 ∨ i = 7 := by omega
    rcases this with rfl | rfl | rfl | rfl | rfl | rfl | rfl | rfl <;> rfl
theorem ringL_stop (S : St) : ringL 64 S = S.list := by
  apply ext_wAt
  · rw [ringL_length]; rfl
  · intro i hi
    have hi8 : i < 8 := hi
    rw [ringL_at _ _ _ hi8, show (i + 64) % 8 = i by omega]
theorem nr80 : notRow Tryd.prog 131 = true := by kernel_rfl
theorem rw36 : isRow Tryd.prog 23 32 = true := by kernel_rfl
theorem rw81 : isRow Tryd.prog 134 8 = true := by kernel_rfl
theorem sz5 : (Tryd.prog.info? 5).map (·.size) = some 1 := by kernel_rfl
theorem sz80 : (Tryd.prog.info? 131).map (·.size) = some 1 := by kernel_rfl
theorem cl62 : CallsTo Tryd.prog 79 := ⟨_, Tryd.func79, by kernel_rfl, by kernel_rfl⟩
theorem cl63 : CallsTo Tryd.prog 80 := ⟨_, Tryd.func80, by kernel_rfl, by kernel_rfl⟩
theorem cl64 : CallsTo Tryd.prog 81 := ⟨_, Tryd.func81, by kernel_rfl, by kernel_rfl⟩

set_option maxRecDepth 100000 in
set_option maxHeartbeats 2000000 in
theorem refsum_any (w : World) (A : Option Addr) (l : List UInt8) (c n : Nat) (hn : n = l.length) (hB : Bts w A l) (hl : n < 140737488355328) :
    Calls Tryd.prog 51 #[.slice A n c] w fun e w' => e = .returned (.agg (dc (sha l)).toArray) ∧ At w [] w' := by
  obtain ⟨P, hP⟩ : ∃ P, P = padded l := ⟨_, rfl⟩
  obtain ⟨nb, hnb⟩ : ∃ k, k = (n + 72) / 64 := ⟨_, rfl⟩
  have hwh : 64 * nb = wholeN n := by rw [hnb]; unfold wholeN; omega
  have hwb : 64 * nb ≤ n + 72 := by omega
  obtain ⟨Z0, hZ0⟩ : ∃ Z, Z = dc (List.replicate 32 0) := ⟨_, rfl⟩
  have hZl : Z0.length = 32 := by rw [hZ0]; rfl
  have hNl : (wc nums).length = 72 := by rw [wc_length, nums_length]
  have hA0 := At.refl w
  refine vc_enter Tryd.func51 rfl Tryd.ntmps51 (Nat.le_of_ble_eq_true rfl) (fun a hF => ?_)
  apply wp_seq_k; intro K1 hK1
  refine wp_region_lit ?_
  refine vc_op rfl (fun K hK => ws_alloc hF rfl (by decide) rfl hA0 zero36 (fun bd w1 a hbd hF hA1 => hK _ _ ?_))
  clear hK K
  replace hA1 : At w [(bd, 23, Z0)] w1 := by rw [hZ0]; exact hA1
  refine vc_nil ?_
  refine hK1 _ _ ?_; clear  hK1 K1
  apply wp_seq_k; intro K2 hK2
  refine wp_region_lit ?_
  refine vc_op rfl (fun K hK => ws_call hF rfl (by decide) cl62 rfl rfl ?_)
  with_reducible refine (numbers_any w1).mono ?_
  rintro e' w2 ⟨rfl, hc2⟩
  refine ⟨_, rfl, fun a hF => hK _ _ ?_⟩; clear hK K
  have hA2 := hA1.then0 hc2
  clear hc2
  refine vc_op rfl (fun K hK => ws_alloc hF rfl (by decide) rfl hA2 nums_zero (fun bk w3 a hbk hF hA3 => hK _ _ ?_))
  clear hK K
  refine vc_op rfl (fun K hK => ws_storeRow hF rfl rfl hA3 rfl rfl 0 rfl (by rw [hNl, wc_length]; decide) (fun v hv => wc_one _ v (by simpa using hv)) (by rw [nums_size, hNl]) (fun w4 hA4 => hK _ _ ?_))
  clear hK K
  replace hA4 : At w [(bk, 132, wc nums), (bd, 23, Z0)] w4 := by rw [← splice_all' (wc (List.replicate 72 0)) (wc nums) (by rw [wc_length, hNl]; rfl)]; exact hA4
  refine vc_nil ?_
  refine hK2 _ _ ?_; clear  hK2 K2
  apply wp_seq_k; intro K3 hK3
  refine wp_region_lit ?_
  refine vc_y hF rfl rfl (by decide) _ (y_move rfl rfl) (fun a hF => ?_)
  refine vc_y hF rfl rfl (by decide) _ (y_lenSl rfl Tryd.underlying59 rfl rfl) (fun a hF => ?_)
  refine vc_y hF rfl rfl (by decide) _ (y_add rfl rfl rfl (IntWalk.i64_in _ (by omega))) (fun a hF => ?_)
  refine vc_y hF rfl rfl (by decide) _ (y_quo rfl rfl rfl (by decide) (show IntKind.i64.wrap ((((n : Int) + 72).tdiv 64)) = (nb : Int) by rw [Int.tdiv_eq_ediv_of_nonneg (by omega), IntWalk.i64_in _ (by omega)]; omega)) (fun a hF => ?_)
  refine vc_y hF rfl rfl (by decide) _ (y_mul rfl rfl rfl (show IntKind.i64.wrap ((nb : Int) * 64) = ((64 * nb : Nat) : Int) by rw [IntWalk.i64_in _ (by omega)]; omega)) (fun a hF => ?_)
  refine vc_y hF rfl rfl (by decide) _ (y_assign rfl rfl) (fun a hF => ?_)
  refine vc_nil ?_
  refine hK3 _ _ ?_; clear  hK3 K3
  apply wp_seq_k; intro K4 hK4
  refine wp_region_lit ?_
  refine vc_op rfl (fun K hK => ws_alloc hF rfl (by decide) rfl hA4 zero81 (fun bs w5 a hbs hF hA5 => hK _ _ ?_))
  clear hK K
  refine vc_nil ?_
  refine hK4 _ _ ?_; clear  hK4 K4
  apply wp_seq_k; intro K5 hK5
  apply wp_seq_k; intro K6 hK6
  refine wp_region_lit ?_
  refine vc_y hF rfl rfl (by decide) _ (y_assign rfl rfl) (fun a hF => ?_)
  refine vc_nil ?_
  refine hK6 _ _ ?_; clear  hK6 K6
  apply wp_block
  have q0 : w.heap.size ≤ bd := hbd
  have q1 : bd < bk := by have := hA2.lt (k := 0) rfl; omega
  have q2 : bk < bs := by have := hA4.lt (k := 0) rfl; omega
  refine vc_loop (G := Nat) (fun i a x => i ≤ 8 ∧ Fr 242 [(6, .int .i64 (i : Int)), (0, .slice A n c), (2, .pointer (some ⟨bd, 0, none⟩)), (3, .pointer (some ⟨bk, 0, none⟩)), (4, .int .i64 ((64 * nb : Nat) : Int)), (5, .pointer (some ⟨bs, 0, none⟩))] a ∧ At w [(bs, 134, wc (init8.take i ++ List.replicate (8 - i) 0)), (bk, 132, wc nums), (bd, 23, Z0)] x) (fun i => 8 - i) 0 ⟨Nat.zero_le _, hF.keep [6, 0, 2, 3, 4, 5] rfl, hA5⟩ ?_
  clear hF
  rintro i a wr ⟨hi, hF, hAr⟩
  clear hA0 hA1 hA2 hA3 hA4 hA5
  by_cases hlt : i < 8
  · apply wp_seq_k; intro K7 hK7
    apply wp_seq_k; intro K8 hK8
    refine wp_region_lit ?_
    refine vc_y hF rfl rfl (by decide) _ (y_move rfl rfl) (fun a hF => ?_)
    refine vc_y hF rfl rfl (by decide) _ (y_cmp rfl rfl rfl rfl (lss_t (by omega))) (fun a hF => ?_)
    refine vc_nil ?_
    refine hK8 _ _ ?_; clear  hK8 K8
    refine vc_true hF rfl ?_
    apply wp_skip
    refine hK7 _ _ ?_; clear  hK7 K7
    apply wp_seq_k; intro K9 hK9
    apply wp_block
    refine wp_region_lit ?_
    refine vc_y hF rfl rfl (by decide) _ (y_move rfl rfl) (fun a hF => ?_)
    refine vc_y hF rfl rfl (by decide) _ (y_move rfl rfl) (fun a hF => ?_)
    refine vc_y hF rfl rfl (by decide) _ (y_add rfl rfl rfl (IntWalk.i64_in _ (by omega))) (fun a hF => ?_)
    refine vc_y hF rfl rfl (by decide) _ (y_ixArr rfl Tryd.underlying132 sz80 rfl rfl (64 + i) (by omega) (by omega) (ad1 _ _) (rfl : (none : Option Nat) = none)) (fun a hF => ?_)
    refine vc_y hF rfl rfl (by decide) _ (y_loadAt rfl hAr rfl 1 rfl (show (wc nums)[64 + i]? = some (.int .u32 (wAt init8 i : Nat)) by rw [wc_at (by rw [nums_length]; omega), nums_init]) nr80) (fun a hF => ?_)
    refine vc_y hF rfl rfl (by decide) _ (y_ixArr rfl Tryd.underlying134 sz80 rfl rfl i rfl hlt (ad1 _ _) (rfl : (none : Option Nat) = none)) (fun a hF => ?_)
    refine vc_op rfl (fun K hK => ws_store1 hF rfl rfl hAr rfl rfl 0 rfl (by rw [wc_length, List.length_append, List.length_take, List.length_replicate, init8_length]; omega) rfl sz80 (fun w6 hA6 => hK _ _ ?_))
    clear hK K
    replace hA6 : At w [(bs, 134, wc (init8.take (i + 1) ++ List.replicate (8 - (i + 1)) 0)), (bk, 132, wc nums), (bd, 23, Z0)] w6 := by
        have h := wc_fill init8 i (8 - (i + 1)) (by rw [init8_length]; exact hlt)
        rw [show 8 - (i + 1) + 1 = 8 - i by omega] at h
        rw [← h]; exact hA6
    refine vc_nil ?_
    refine hK9 _ _ ?_; clear  hK9 K9
    refine wp_region_lit ?_
    refine vc_y hF rfl rfl (by decide) _ (y_move rfl rfl) (fun a hF => ?_)
    refine vc_y hF rfl rfl (by decide) _ (y_add rfl rfl rfl (IntWalk.i64_in _ (by omega))) (fun a hF => ?_)
    refine vc_y hF rfl rfl (by decide) _ (y_assign rfl rfl) (fun a hF => ?_)
    refine vc_nil ?_
    exact ⟨i + 1, by omega, by omega, hF.keep [6, 0, 2, 3, 4, 5] rfl, hA6⟩
  · obtain rfl : i = 8 := by omega
    apply wp_seq_k; intro K10 hK10
    apply wp_seq_k; intro K11 hK11
    refine wp_region_lit ?_
    refine vc_y hF rfl rfl (by decide) _ (y_move rfl rfl) (fun a hF => ?_)
    refine vc_y hF rfl rfl (by decide) _ (y_cmp rfl rfl rfl rfl (lss_f (by omega))) (fun a hF => ?_)
    refine vc_nil ?_
    refine hK11 _ _ ?_; clear  hK11 K11
    refine vc_false hF rfl ?_
    replace hAr : At w [(bs, 134, wc (blocks 0 init8 P)), (bk, 132, wc nums), (bd, 23, Z0)] wr := hAr
    apply wp_exit
    refine hK5 _ _ ?_; clear hK10 K10 hK5 K5
    apply wp_seq_k; intro K12 hK12
    apply wp_seq_k; intro K13 hK13
    refine wp_region_lit ?_
    refine vc_y hF rfl rfl (by decide) _ (y_assign rfl rfl) (fun a hF => ?_)
    refine vc_nil ?_
    refine hK13 _ _ ?_; clear  hK13 K13
    apply wp_block
    refine vc_loop (G := Nat) (fun j a x => j ≤ nb ∧ Fr 242 [(7, .int .i64 (64 * (j : Int))), (0, .slice A n c), (2, .pointer (some ⟨bd, 0, none⟩)), (3, .pointer (some ⟨bk, 0, none⟩)), (4, .int .i64 ((64 * nb : Nat) : Int)), (5, .pointer (some ⟨bs, 0, none⟩))] a ∧ At w [(bs, 134, wc (blocks j init8 P)), (bk, 132, wc nums), (bd, 23, Z0)] x) (fun j => nb - j) 0 ⟨Nat.zero_le _, hF.keep [7, 0, 2, 3, 4, 5] rfl, hAr⟩ ?_
    clear hF
    rintro j a wr ⟨hj, hF, hAr⟩
    clear hi
    by_cases hlt : j < nb
    · obtain ⟨st, hst⟩ : ∃ st, st = blocks j init8 P := ⟨_, rfl⟩
      obtain ⟨B, hBk⟩ : ∃ B, B = (P.drop (64 * j)).take 64 := ⟨_, rfl⟩
      obtain ⟨V, hV⟩ : ∃ V, V = sched 48 (words 16 B) := ⟨_, rfl⟩
      have hC : compress st B = blocks (j + 1) init8 P := by rw [hst, hBk, blocks_end]
      have hsl : st.length = 8 := by rw [hst]; exact blocks_length _ _ _ rfl
      have hslt : ∀ x ∈ st, x < 4294967296 := by rw [hst]; exact blocks_lt _ _ _ init8_lt
      rw [← hst] at hAr
      apply wp_seq_k; intro K14 hK14
      apply wp_seq_k; intro K15 hK15
      refine wp_region_lit ?_
      refine vc_y hF rfl rfl (by decide) _ (y_move rfl rfl) (fun a hF => ?_)
      refine vc_y hF rfl rfl (by decide) _ (y_move rfl rfl) (fun a hF => ?_)
      refine vc_y hF rfl rfl (by decide) _ (y_cmp rfl rfl rfl rfl (lss_t (by omega))) (fun a hF => ?_)
      refine vc_nil ?_
      refine hK15 _ _ ?_; clear  hK15 K15
      refine vc_true hF rfl ?_
      apply wp_skip
      refine hK14 _ _ ?_; clear  hK14 K14
      apply wp_seq_k; intro K16 hK16
      apply wp_block
      apply wp_seq_k; intro K17 hK17
      refine wp_region_lit ?_
      refine vc_op rfl (fun K hK => ws_alloc hF rfl (by decide) rfl hAr zero92 (fun bw w7 a hbw hF hA7 => hK _ _ ?_))
      clear hK K
      replace hA7 : At w [(bw, 135, wc (wpart B 0)), (bs, 134, wc st), (bk, 132, wc nums), (bd, 23, Z0)] w7 := by rw [wpart_zero]; exact hA7
      refine vc_nil ?_
      refine hK17 _ _ ?_; clear  hK17 K17
      apply wp_seq_k; intro K18 hK18
      apply wp_seq_k; intro K19 hK19
      refine wp_region_lit ?_
      refine vc_y hF rfl rfl (by decide) _ (y_assign rfl rfl) (fun a hF => ?_)
      refine vc_nil ?_
      refine hK19 _ _ ?_; clear  hK19 K19
      apply wp_block
      have q3 : bs < bw := by have := hAr.lt (k := 0) rfl; omega
      refine vc_loop (G := Nat) (fun i a x => i ≤ 64 ∧ Fr 242 [(9, .int .i64 (i : Int)), (0, .slice A n c), (2, .pointer (some ⟨bd, 0, none⟩)), (3, .pointer (some ⟨bk, 0, none⟩)), (4, .int .i64 ((64 * nb : Nat) : Int)), (5, .pointer (some ⟨bs, 0, none⟩)), (7, .int .i64 (64 * (j : Int))), (8, .pointer (some ⟨bw, 0, none⟩))] a ∧ At w [(bw, 135, wc (wpart B i)), (bs, 134, wc st), (bk, 132, wc nums), (bd, 23, Z0)] x) (fun i => 64 - i) 0 ⟨Nat.zero_le _, hF.keep [9, 0, 2, 3, 4, 5, 7, 8] rfl, hA7⟩ ?_
      clear hF
      rintro i a wr ⟨hi, hF, hAr⟩
      clear hA7
      by_cases hlt : i < 64
      · have hni : ∀ r ∈ [(bw, 135, wc (wpart B i)), (bs, 134, wc st), (bk, 132, wc nums), (bd, 23, Z0)], w.heap.size ≤ (r : Row).1 := by
          intro r hr; simp only [List.mem_cons, List.not_mem_nil, or_false] at hr; rcases hr with h | h | h | h <;> subst h <;> simp only <;> omega
        have hbu : bAt (padded l) (64 * j + i) = bAt B i := by rw [hBk, blk_at _ _ _ hlt, hP]
        apply wp_seq_k; intro K20 hK20
        apply wp_seq_k; intro K21 hK21
        refine wp_region_lit ?_
        refine vc_y hF rfl rfl (by decide) _ (y_move rfl rfl) (fun a hF => ?_)
        refine vc_y hF rfl rfl (by decide) _ (y_cmp rfl rfl rfl rfl (lss_t (by omega))) (fun a hF => ?_)
        refine vc_nil ?_
        refine hK21 _ _ ?_; clear  hK21 K21
        refine vc_true hF rfl ?_
        apply wp_skip
        refine hK20 _ _ ?_; clear  hK20 K20
        apply wp_seq_k; intro K22 hK22
        apply wp_block
        refine wp_region_plan 16 [12,16] [0,1,2,3,4,5,6,7,8,9,10,11,12,13,14,15,16] (At w [(bw, 135, wc (wpart B i)), (bs, 134, wc st), (bk, 132, wc nums), (bd, 23, Z0)]) (by kernel_rfl) (by kernel_rfl) (hAr.drew) ?_
        refine vp_y hF rfl rfl rfl rfl (by decide) _ (fun x hx => y_move rfl rfl) (fun a hF => ?_)
        refine vp_y hF rfl rfl rfl rfl (by decide) _ (fun x hx => y_quo rfl rfl rfl (by decide) (div4_lt i hlt)) (fun a hF => ?_)
        refine vp_y hF rfl rfl rfl rfl (by decide) _ (fun x hx => y_move rfl rfl) (fun a hF => ?_)
        refine vp_y hF rfl rfl rfl rfl (by decide) _ (fun x hx => y_quo rfl rfl rfl (by decide) (div4_lt i hlt)) (fun a hF => ?_)
        refine vp_y hF rfl rfl rfl rfl (by decide) _ (fun x hx => y_ixArr rfl Tryd.underlying135 sz80 rfl rfl (i / 4) rfl (by omega) (ad1 _ _) (rfl : (none : Option Nat) = none)) (fun a hF => ?_)
        refine vp_y hF rfl rfl rfl rfl (by decide) _ (fun x hx => y_loadAt rfl hx rfl 0 rfl (wc_at (l := wpart B i) (i := i / 4) (by rw [wpart_length]; omega)) nr80) (fun a hF => ?_)
        refine vp_y hF rfl rfl rfl rfl (by decide) _ (fun x hx => y_shl rfl rfl rfl (by decide) (shl8_int _)) (fun a hF => ?_)
        refine vp_y hF rfl rfl rfl rfl (by decide) _ (fun x hx => y_move rfl rfl) (fun a hF => ?_)
        refine vp_y hF rfl rfl rfl rfl (by decide) _ (fun x hx => y_move rfl rfl) (fun a hF => ?_)
        refine vp_y hF rfl rfl rfl rfl (by decide) _ (fun x hx => y_move rfl rfl) (fun a hF => ?_)
        refine vp_y hF rfl rfl rfl rfl (by decide) _ (fun x hx => y_add rfl rfl rfl (IntWalk.i64_in _ (by omega))) (fun a hF => ?_)
        refine vp_y hF rfl rfl rfl rfl (by decide) _ (fun x hx => y_move rfl rfl) (fun a hF => ?_)
        refine vp_l rfl rfl rfl (fun K hK => ws_call hF rfl (by decide) cl63 rfl rfl ?_)
        with_reducible refine (byteAt_at _ A l c n (64 * j + i) (64 * nb) _ _ _ (by omega) rfl hn (hB.fresh hAr.drew hni) (by omega) hwh (by omega) rfl).mono ?_
        rintro e' w' ⟨rfl, rfl⟩
        refine ⟨_, rfl, fun a hF => hK _ _ (fun _ => hAr.drew) ?_⟩; clear hK K
        rw [hbu] at hF
        refine vp_y hF rfl rfl rfl rfl (by decide) _ (fun x hx => y_conv rfl Tryd.underlying5 Tryd.underlying131 rfl (wrap_byte32 _)) (fun a hF => ?_)
        refine vp_y hF rfl rfl rfl rfl (by decide) _ (fun x hx => y_or rfl rfl rfl (or8_int _ _)) (fun a hF => ?_)
        refine vp_y hF rfl rfl rfl rfl (by decide) _ (fun x hx => y_ixArr rfl Tryd.underlying135 sz80 rfl rfl (i / 4) rfl (by omega) (ad1 _ _) (rfl : (none : Option Nat) = none)) (fun a hF => ?_)
        refine vp_l rfl rfl rfl (fun K hK => ws_store1 hF rfl rfl hAr.drew rfl rfl 0 rfl (by rw [wc_length, wpart_length]; omega) rfl sz80 (fun w8 hA8 => hK _ _ (fun h => absurd h (by decide)) ?_))
        clear hK K
        replace hA8 : At w [(bw, 135, wc (wpart B (i + 1))), (bs, 134, wc st), (bk, 132, wc nums), (bd, 23, Z0)] w8 := by rw [← word_put B i hlt]; exact hA8
        refine plan_end ?_
        refine hK22 _ _ ?_; clear  hK22 K22
        refine wp_region_lit ?_
        refine vc_y hF rfl rfl (by decide) _ (y_move rfl rfl) (fun a hF => ?_)
        refine vc_y hF rfl rfl (by decide) _ (y_add rfl rfl rfl (IntWalk.i64_in _ (by omega))) (fun a hF => ?_)
        refine vc_y hF rfl rfl (by decide) _ (y_assign rfl rfl) (fun a hF => ?_)
        refine vc_nil ?_
        exact ⟨i + 1, by omega, by omega, hF.keep [9, 0, 2, 3, 4, 5, 7, 8] rfl, hA8⟩
      · obtain rfl : i = 64 := by omega
        replace hAr : At w [(bw, 135, wc (ringW 16 V)), (bs, 134, wc st), (bk, 132, wc nums), (bd, 23, Z0)] wr := by rw [hV, words_prefix, ← wpart_end]; exact hAr
        apply wp_seq_k; intro K23 hK23
        apply wp_seq_k; intro K24 hK24
        refine wp_region_lit ?_
        refine vc_y hF rfl rfl (by decide) _ (y_move rfl rfl) (fun a hF => ?_)
        refine vc_y hF rfl rfl (by decide) _ (y_cmp rfl rfl rfl rfl (lss_f (by omega))) (fun a hF => ?_)
        refine vc_nil ?_
        refine hK24 _ _ ?_; clear  hK24 K24
        refine vc_false hF rfl ?_
        apply wp_exit
        refine hK18 _ _ ?_; clear hK23 K23 hK18 K18
        apply wp_seq_k; intro K25 hK25
        refine wp_region_lit ?_
        refine vc_y hF rfl rfl (by decide) _ (y_loadRow rfl hAr rfl 1 rfl rw81 (by rw [wc_length, hsl]; decide) (by rw [List.drop_zero, List.take_of_length_le (by rw [wc_length, hsl]; exact Nat.le_refl _)])) (fun a hF => ?_)
        refine vc_op rfl (fun K hK => ws_alloc hF rfl (by decide) rfl hAr zero81 (fun br w9 a hbr hF hA9 => hK _ _ ?_))
        clear hK K
        refine vc_op rfl (fun K hK => ws_storeRow hF rfl rfl hA9 rfl rfl 0 rfl (by rw [wc_length, wc_length, hsl]; decide) (fun v hv => wc_one _ v (by simpa using hv)) (by rw [size81, wc_length, hsl]) (fun w10 hA10 => hK _ _ ?_))
        clear hK K
        replace hA10 : At w [(br, 134, wc st), (bw, 135, wc (ringW 16 V)), (bs, 134, wc st), (bk, 132, wc nums), (bd, 23, Z0)] w10 := by
            have e := splice_all' (wc (List.replicate 8 0)) (wc st) (by rw [wc_length, wc_length, hsl]; rfl)
            rw [List.set_cons_zero, e] at hA10
            exact hA10
        refine vc_nil ?_
        refine hK25 _ _ ?_; clear  hK25 K25
        apply wp_seq_k; intro K26 hK26
        apply wp_seq_k; intro K27 hK27
        refine wp_region_lit ?_
        refine vc_y hF rfl rfl (by decide) _ (y_assign rfl rfl) (fun a hF => ?_)
        refine vc_nil ?_
        refine hK27 _ _ ?_; clear  hK27 K27
        apply wp_block
        have q4 : bw < br := by have := hAr.lt (k := 0) rfl; omega
        replace hA10 : At w [(br, 134, wc (ringL 0 (rounds V (St.of st) 0))), (bw, 135, wc (ringW (max 0 16) V)), (bs, 134, wc st), (bk, 132, wc nums), (bd, 23, Z0)] w10 := by rw [ringL_start V st hsl]; exact hA10
        refine vc_loop (G := Nat) (fun t a x => t ≤ 64 ∧ Fr 242 [(11, .int .i64 (t : Int)), (0, .slice A n c), (2, .pointer (some ⟨bd, 0, none⟩)), (3, .pointer (some ⟨bk, 0, none⟩)), (4, .int .i64 ((64 * nb : Nat) : Int)), (5, .pointer (some ⟨bs, 0, none⟩)), (7, .int .i64 (64 * (j : Int))), (8, .pointer (some ⟨bw, 0, none⟩)), (10, .pointer (some ⟨br, 0, none⟩))] a ∧ At w [(br, 134, wc (ringL t (rounds V (St.of st) t))), (bw, 135, wc (ringW (max t 16) V)), (bs, 134, wc st), (bk, 132, wc nums), (bd, 23, Z0)] x) (fun t => 64 - t) 0 ⟨Nat.zero_le _, hF.keep [11, 0, 2, 3, 4, 5, 7, 8, 10] rfl, hA10⟩ ?_
        clear hF
        rintro t a wr ⟨ht, hF, hAr⟩
        clear hA9 hA10 hi
        by_cases hlt : t < 64
        · obtain ⟨S, hS⟩ : ∃ S, S = rounds V (St.of st) t := ⟨_, rfl⟩
          obtain ⟨ha, hb, hc, hd, he, hf, hg, hh⟩ : St.ok S := by rw [hS]; exact ok_rounds _ (ok_of hslt) t
          have hVlt : ∀ k, wAt V k < 4294967296 := fun k => by rw [hV]; exact wAt_lt _ (sched_lt _ _ (words_lt _ _)) k
          have hN : S.step (wAt ks t) (wAt V t) = rounds V (St.of st) (t + 1) := by rw [hS]; rfl
          rw [← hS] at hAr
          apply wp_seq_k; intro K28 hK28
          apply wp_seq_k; intro K29 hK29
          refine wp_region_lit ?_
          refine vc_y hF rfl rfl (by decide) _ (y_move rfl rfl) (fun a hF => ?_)
          refine vc_y hF rfl rfl (by decide) _ (y_cmp rfl rfl rfl rfl (lss_t (by omega))) (fun a hF => ?_)
          refine vc_nil ?_
          refine hK29 _ _ ?_; clear  hK29 K29
          refine vc_true hF rfl ?_
          by_cases h16 : t < 16
          · have hAw : At w [(br, 134, wc (ringL t S)), (bw, 135, wc (ringW (max (t + 1) 16) V)), (bs, 134, wc st), (bk, 132, wc nums), (bd, 23, Z0)] wr := by rw [show max (t + 1) 16 = max t 16 by omega]; exact hAr
            apply wp_skip
            refine hK28 _ _ ?_; clear  hK28 K28
            apply wp_seq_k; intro K30 hK30
            apply wp_block
            apply wp_seq_k; intro K31 hK31
            apply wp_seq_k; intro K32 hK32
            refine wp_region_lit ?_
            refine vc_y hF rfl rfl (by decide) _ (y_move rfl rfl) (fun a hF => ?_)
            refine vc_y hF rfl rfl (by decide) _ (y_cmp rfl rfl rfl rfl (geq_f (by omega))) (fun a hF => ?_)
            refine vc_nil ?_
            refine hK32 _ _ ?_; clear  hK32 K32
            refine vc_false hF rfl ?_
            apply wp_skip
            refine hK31 _ _ ?_; clear  hK31 K31
            apply wp_seq_k; intro K33 hK33
            refine wp_region_lit ?_
            refine vc_y hF rfl rfl (by decide) _ (y_move rfl rfl) (fun a hF => ?_)
            refine vc_y hF rfl rfl (by decide) _ (y_sub rfl rfl rfl (ring_s 64 64 t rfl hlt (by decide))) (fun a hF => ?_)
            refine vc_y hF rfl rfl (by decide) _ (y_rem rfl rfl rfl (by decide) (ring_m 64 64 t rfl hlt (by decide))) (fun a hF => ?_)
            refine vc_y hF rfl rfl (by decide) _ (y_ixArr rfl Tryd.underlying134 sz80 rfl rfl _ rfl (Nat.mod_lt _ (by decide)) (ad1 _ _) (rfl : (none : Option Nat) = none)) (fun a hF => ?_)
            refine vc_y hF rfl rfl (by decide) _ (y_loadAt rfl hAw rfl 0 rfl (show (wc (ringL t S))[(64 - t) % 8]? = some (.int .u32 (S.a : Nat)) from ring_c t S 64 0 rfl hlt (by decide)) nr80) (fun a hF => ?_)
            refine vc_y hF rfl rfl (by decide) _ (y_assign rfl rfl) (fun a hF => ?_)
            refine vc_nil ?_
            refine hK33 _ _ ?_; clear  hK33 K33
            apply wp_seq_k; intro K34 hK34
            refine wp_region_lit ?_
            refine vc_y hF rfl rfl (by decide) _ (y_move rfl rfl) (fun a hF => ?_)
            refine vc_y hF rfl rfl (by decide) _ (y_sub rfl rfl rfl (ring_s 68 68 t rfl hlt (by decide))) (fun a hF => ?_)
            refine vc_y hF rfl rfl (by decide) _ (y_rem rfl rfl rfl (by decide) (ring_m 68 68 t rfl hlt (by decide))) (fun a hF => ?_)
            refine vc_y hF rfl rfl (by decide) _ (y_ixArr rfl Tryd.underlying134 sz80 rfl rfl _ rfl (Nat.mod_lt _ (by decide)) (ad1 _ _) (rfl : (none : Option Nat) = none)) (fun a hF => ?_)
            refine vc_y hF rfl rfl (by decide) _ (y_loadAt rfl hAw rfl 0 rfl (show (wc (ringL t S))[(68 - t) % 8]? = some (.int .u32 (S.e : Nat)) from ring_c t S 68 4 rfl hlt (by decide)) nr80) (fun a hF => ?_)
            refine vc_y hF rfl rfl (by decide) _ (y_assign rfl rfl) (fun a hF => ?_)
            refine vc_nil ?_
            refine hK34 _ _ ?_; clear  hK34 K34
            apply wp_seq_k; intro K35 hK35
            refine wp_region_lit ?_
            refine vc_y hF rfl rfl (by decide) _ (y_move rfl rfl) (fun a hF => ?_)
            refine vc_y hF rfl rfl (by decide) _ (y_sub rfl rfl rfl (ring_s 69 69 t rfl hlt (by decide))) (fun a hF => ?_)
            refine vc_y hF rfl rfl (by decide) _ (y_rem rfl rfl rfl (by decide) (ring_m 69 69 t rfl hlt (by decide))) (fun a hF => ?_)
            refine vc_y hF rfl rfl (by decide) _ (y_ixArr rfl Tryd.underlying134 sz80 rfl rfl _ rfl (Nat.mod_lt _ (by decide)) (ad1 _ _) (rfl : (none : Option Nat) = none)) (fun a hF => ?_)
            refine vc_y hF rfl rfl (by decide) _ (y_loadAt rfl hAw rfl 0 rfl (show (wc (ringL t S))[(69 - t) % 8]? = some (.int .u32 (S.f : Nat)) from ring_c t S 69 5 rfl hlt (by decide)) nr80) (fun a hF => ?_)
            refine vc_y hF rfl rfl (by decide) _ (y_assign rfl rfl) (fun a hF => ?_)
            refine vc_nil ?_
            refine hK35 _ _ ?_; clear  hK35 K35
            apply wp_seq_k; intro K36 hK36
            refine wp_region_lit ?_
            refine vc_y hF rfl rfl (by decide) _ (y_move rfl rfl) (fun a hF => ?_)
            refine vc_y hF rfl rfl (by decide) _ (y_sub rfl rfl rfl (ring_s 70 70 t rfl hlt (by decide))) (fun a hF => ?_)
            refine vc_y hF rfl rfl (by decide) _ (y_rem rfl rfl rfl (by decide) (ring_m 70 70 t rfl hlt (by decide))) (fun a hF => ?_)
            refine vc_y hF rfl rfl (by decide) _ (y_ixArr rfl Tryd.underlying134 sz80 rfl rfl _ rfl (Nat.mod_lt _ (by decide)) (ad1 _ _) (rfl : (none : Option Nat) = none)) (fun a hF => ?_)
            refine vc_y hF rfl rfl (by decide) _ (y_loadAt rfl hAw rfl 0 rfl (show (wc (ringL t S))[(70 - t) % 8]? = some (.int .u32 (S.g : Nat)) from ring_c t S 70 6 rfl hlt (by decide)) nr80) (fun a hF => ?_)
            refine vc_y hF rfl rfl (by decide) _ (y_assign rfl rfl) (fun a hF => ?_)
            refine vc_nil ?_
            refine hK36 _ _ ?_; clear  hK36 K36
            apply wp_seq_k; intro K37 hK37
            refine wp_region_lit ?_
            refine vc_y hF rfl rfl (by decide) _ (y_move rfl rfl) (fun a hF => ?_)
            refine vc_y hF rfl rfl (by decide) _ (y_sub rfl rfl rfl (ring_s 71 71 t rfl hlt (by decide))) (fun a hF => ?_)
            refine vc_y hF rfl rfl (by decide) _ (y_rem rfl rfl rfl (by decide) (ring_m 71 71 t rfl hlt (by decide))) (fun a hF => ?_)
            refine vc_y hF rfl rfl (by decide) _ (y_assign rfl rfl) (fun a hF => ?_)
            refine vc_nil ?_
            replace hF := hF.keep [11, 0, 2, 3, 4, 5, 7, 8, 10, 14, 15, 16, 17, 18] rfl
            refine hK37 _ _ ?_; clear  hK37 K37
            apply wp_seq_k; intro K38 hK38
            refine wp_region_plan 29 [4,6,9,29] [0,1,2,3,5,8,12,13,14,15,16,17,18,20,21,22,24,25,26,27,4,6,7,9,10,11,19,23,28,29] (At w [(br, 134, wc (ringL t S)), (bw, 135, wc (ringW (max (t + 1) 16) V)), (bs, 134, wc st), (bk, 132, wc nums), (bd, 23, Z0)]) (by kernel_rfl) (by kernel_rfl) (hAw.drew) ?_
            refine vp_y hF rfl rfl rfl rfl (by decide) _ (fun x hx => y_move rfl rfl) (fun a hF => ?_)
            refine vp_y hF rfl rfl rfl rfl (by decide) _ (fun x hx => y_ixArr rfl Tryd.underlying134 sz80 rfl rfl _ rfl (Nat.mod_lt _ (by decide)) (ad1 _ _) (rfl : (none : Option Nat) = none)) (fun a hF => ?_)
            refine vp_y hF rfl rfl rfl rfl (by decide) _ (fun x hx => y_loadAt rfl hx rfl 0 rfl (show (wc (ringL t S))[(71 - t) % 8]? = some (.int .u32 (S.h : Nat)) from ring_c t S 71 7 rfl hlt (by decide)) nr80) (fun a hF => ?_)
            refine vp_y hF rfl rfl rfl rfl (by decide) _ (fun x hx => y_move rfl rfl) (fun a hF => ?_)
            refine vp_y hF rfl rfl rfl rfl (by decide) _ (fun x hx => y_move rfl rfl) (fun a hF => ?_)
            refine vp_y hF rfl rfl rfl rfl (by decide) _ (fun x hx => y_move rfl rfl) (fun a hF => ?_)
            refine vp_y hF rfl rfl rfl rfl (by decide) _ (fun x hx => y_move rfl rfl) (fun a hF => ?_)
            refine vp_y hF rfl rfl rfl rfl (by decide) _ (fun x hx => y_move rfl rfl) (fun a hF => ?_)
            refine vp_y hF rfl rfl rfl rfl (by decide) _ (fun x hx => y_move rfl rfl) (fun a hF => ?_)
            refine vp_y hF rfl rfl rfl rfl (by decide) _ (fun x hx => y_move rfl rfl) (fun a hF => ?_)
            refine vp_y hF rfl rfl rfl rfl (by decide) _ (fun x hx => y_xor rfl rfl rfl rfl) (fun a hF => ?_)
            refine vp_y hF rfl rfl rfl rfl (by decide) _ (fun x hx => y_and rfl rfl rfl rfl) (fun a hF => ?_)
            refine vp_y hF rfl rfl rfl rfl (by decide) _ (fun x hx => y_xor rfl rfl rfl (rch_int _ _ _ he hf hg)) (fun a hF => ?_)
            refine vp_y hF rfl rfl rfl rfl (by decide) _ (fun x hx => y_move rfl rfl) (fun a hF => ?_)
            refine vp_y hF rfl rfl rfl rfl (by decide) _ (fun x hx => y_ixArr rfl Tryd.underlying132 sz80 rfl rfl t rfl (by omega) (ad1 _ _) (rfl : (none : Option Nat) = none)) (fun a hF => ?_)
            refine vp_y hF rfl rfl rfl rfl (by decide) _ (fun x hx => y_loadAt rfl hx rfl 3 rfl (show (wc nums)[t]? = some (.int .u32 (wAt ks t : Nat)) by rw [wc_at (by rw [nums_length]; omega), nums_ks t hlt]) nr80) (fun a hF => ?_)
            refine vp_y hF rfl rfl rfl rfl (by decide) _ (fun x hx => y_move rfl rfl) (fun a hF => ?_)
            refine vp_y hF rfl rfl rfl rfl (by decide) _ (fun x hx => y_rem rfl rfl rfl (by decide) (ringw_0 t)) (fun a hF => ?_)
            refine vp_y hF rfl rfl rfl rfl (by decide) _ (fun x hx => y_ixArr rfl Tryd.underlying135 sz80 rfl rfl _ rfl (Nat.mod_lt _ (by decide)) (ad1 _ _) (rfl : (none : Option Nat) = none)) (fun a hF => ?_)
            refine vp_y hF rfl rfl rfl rfl (by decide) _ (fun x hx => y_loadAt rfl hx rfl 1 rfl (ringw_now t V hlt) nr80) (fun a hF => ?_)
            refine vp_l rfl rfl rfl (fun K hK => ws_call hF rfl (by decide) cl64 rfl rfl ?_)
            with_reducible refine (right_at _ 6 6 rfl he (by decide) (by decide) _).mono ?_
            rintro e' w' ⟨rfl, rfl⟩
            refine ⟨_, rfl, fun a hF => hK _ _ (fun _ => hAw.drew) ?_⟩; clear hK K
            refine vp_l rfl rfl rfl (fun K hK => ws_call hF rfl (by decide) cl64 rfl rfl ?_)
            with_reducible refine (right_at _ 11 11 rfl he (by decide) (by decide) _).mono ?_
            rintro e' w' ⟨rfl, rfl⟩
            refine ⟨_, rfl, fun a hF => hK _ _ (fun _ => hAw.drew) ?_⟩; clear hK K
            refine vp_y hF rfl rfl rfl rfl (by decide) _ (fun x hx => y_xor rfl rfl rfl rfl) (fun a hF => ?_)
            refine vp_l rfl rfl rfl (fun K hK => ws_call hF rfl (by decide) cl64 rfl rfl ?_)
            with_reducible refine (right_at _ 25 25 rfl he (by decide) (by decide) _).mono ?_
            rintro e' w' ⟨rfl, rfl⟩
            refine ⟨_, rfl, fun a hF => hK _ _ (fun _ => hAw.drew) ?_⟩; clear hK K
            refine vp_y hF rfl rfl rfl rfl (by decide) _ (fun x hx => y_xor rfl rfl rfl (Sig1_int _ he)) (fun a hF => ?_)
            refine vp_y hF rfl rfl rfl rfl (by decide) _ (fun x hx => y_add rfl rfl rfl (sum_int _ _)) (fun a hF => ?_)
            refine vp_y hF rfl rfl rfl rfl (by decide) _ (fun x hx => y_add rfl rfl rfl (sum_int _ _)) (fun a hF => ?_)
            refine vp_y hF rfl rfl rfl rfl (by decide) _ (fun x hx => y_add rfl rfl rfl (sum_int _ _)) (fun a hF => ?_)
            refine vp_y hF rfl rfl rfl rfl (by decide) _ (fun x hx => y_add rfl rfl rfl (sum_int _ _)) (fun a hF => ?_)
            refine vp_ly hF rfl rfl rfl rfl (by decide) _ (y_assign rfl rfl) (fun h => absurd h (by decide)) (fun a hF => ?_)
            refine plan_end ?_
            have hA11 := hAw.drew
            refine hK38 _ _ ?_; clear  hK38 K38
            apply wp_seq_k; intro K39 hK39
            refine wp_region_lit ?_
            refine vc_y hF rfl rfl (by decide) _ (y_move rfl rfl) (fun a hF => ?_)
            refine vc_y hF rfl rfl (by decide) _ (y_sub rfl rfl rfl (ring_s 65 65 t rfl hlt (by decide))) (fun a hF => ?_)
            refine vc_y hF rfl rfl (by decide) _ (y_rem rfl rfl rfl (by decide) (ring_m 65 65 t rfl hlt (by decide))) (fun a hF => ?_)
            refine vc_y hF rfl rfl (by decide) _ (y_ixArr rfl Tryd.underlying134 sz80 rfl rfl _ rfl (Nat.mod_lt _ (by decide)) (ad1 _ _) (rfl : (none : Option Nat) = none)) (fun a hF => ?_)
            refine vc_y hF rfl rfl (by decide) _ (y_loadAt rfl hA11 rfl 0 rfl (show (wc (ringL t S))[(65 - t) % 8]? = some (.int .u32 (S.b : Nat)) from ring_c t S 65 1 rfl hlt (by decide)) nr80) (fun a hF => ?_)
            refine vc_y hF rfl rfl (by decide) _ (y_assign rfl rfl) (fun a hF => ?_)
            refine vc_nil ?_
            refine hK39 _ _ ?_; clear  hK39 K39
            apply wp_seq_k; intro K40 hK40
            refine wp_region_lit ?_
            refine vc_y hF rfl rfl (by decide) _ (y_move rfl rfl) (fun a hF => ?_)
            refine vc_y hF rfl rfl (by decide) _ (y_sub rfl rfl rfl (ring_s 66 66 t rfl hlt (by decide))) (fun a hF => ?_)
            refine vc_y hF rfl rfl (by decide) _ (y_rem rfl rfl rfl (by decide) (ring_m 66 66 t rfl hlt (by decide))) (fun a hF => ?_)
            refine vc_y hF rfl rfl (by decide) _ (y_ixArr rfl Tryd.underlying134 sz80 rfl rfl _ rfl (Nat.mod_lt _ (by decide)) (ad1 _ _) (rfl : (none : Option Nat) = none)) (fun a hF => ?_)
            refine vc_y hF rfl rfl (by decide) _ (y_loadAt rfl hA11 rfl 0 rfl (show (wc (ringL t S))[(66 - t) % 8]? = some (.int .u32 (S.c : Nat)) from ring_c t S 66 2 rfl hlt (by decide)) nr80) (fun a hF => ?_)
            refine vc_y hF rfl rfl (by decide) _ (y_assign rfl rfl) (fun a hF => ?_)
            refine vc_nil ?_
            refine hK40 _ _ ?_; clear  hK40 K40
            apply wp_seq_k; intro K41 hK41
            refine wp_region_lit ?_
            refine vc_y hF rfl rfl (by decide) _ (y_move rfl rfl) (fun a hF => ?_)
            refine vc_y hF rfl rfl (by decide) _ (y_sub rfl rfl rfl (ring_s 67 67 t rfl hlt (by decide))) (fun a hF => ?_)
            refine vc_y hF rfl rfl (by decide) _ (y_rem rfl rfl rfl (by decide) (ring_m 67 67 t rfl hlt (by decide))) (fun a hF => ?_)
            refine vc_y hF rfl rfl (by decide) _ (y_move rfl rfl) (fun a hF => ?_)
            refine vc_y hF rfl rfl (by decide) _ (y_sub rfl rfl rfl (ring_s 67 67 t rfl hlt (by decide))) (fun a hF => ?_)
            refine vc_y hF rfl rfl (by decide) _ (y_rem rfl rfl rfl (by decide) (ring_m 67 67 t rfl hlt (by decide))) (fun a hF => ?_)
            refine vc_y hF rfl rfl (by decide) _ (y_ixArr rfl Tryd.underlying134 sz80 rfl rfl _ rfl (Nat.mod_lt _ (by decide)) (ad1 _ _) (rfl : (none : Option Nat) = none)) (fun a hF => ?_)
            refine vc_y hF rfl rfl (by decide) _ (y_loadAt rfl hA11 rfl 0 rfl (show (wc (ringL t S))[(67 - t) % 8]? = some (.int .u32 (S.d : Nat)) from ring_c t S 67 3 rfl hlt (by decide)) nr80) (fun a hF => ?_)
            refine vc_y hF rfl rfl (by decide) _ (y_move rfl rfl) (fun a hF => ?_)
            refine vc_y hF rfl rfl (by decide) _ (y_add rfl rfl rfl (sum_int _ _)) (fun a hF => ?_)
            refine vc_y hF rfl rfl (by decide) _ (y_ixArr rfl Tryd.underlying134 sz80 rfl rfl _ rfl (Nat.mod_lt _ (by decide)) (ad1 _ _) (rfl : (none : Option Nat) = none)) (fun a hF => ?_)
            refine vc_op rfl (fun K hK => ws_store1 hF rfl rfl hA11 rfl rfl 0 rfl (by rw [wc_length, ringL_length]; exact Nat.mod_lt _ (by decide)) rfl sz80 (fun w12 hA12 => hK _ _ ?_))
            clear hK K
            refine vc_nil ?_
            refine hK41 _ _ ?_; clear  hK41 K41
            refine wp_region_lit ?_
            refine vc_y hF rfl rfl (by decide) _ (y_move rfl rfl) (fun a hF => ?_)
            refine vc_y hF rfl rfl (by decide) _ (y_move rfl rfl) (fun a hF => ?_)
            refine vc_y hF rfl rfl (by decide) _ (y_move rfl rfl) (fun a hF => ?_)
            refine vc_op rfl (fun K hK => ws_call hF rfl (by decide) cl64 rfl rfl ?_)
            with_reducible refine (right_at _ 2 2 rfl ha (by decide) (by decide) _).mono ?_
            rintro e' w' ⟨rfl, rfl⟩
            refine ⟨_, rfl, fun a hF => hK _ _ ?_⟩; clear hK K
            refine vc_y hF rfl rfl (by decide) _ (y_move rfl rfl) (fun a hF => ?_)
            refine vc_op rfl (fun K hK => ws_call hF rfl (by decide) cl64 rfl rfl ?_)
            with_reducible refine (right_at _ 13 13 rfl ha (by decide) (by decide) _).mono ?_
            rintro e' w' ⟨rfl, rfl⟩
            refine ⟨_, rfl, fun a hF => hK _ _ ?_⟩; clear hK K
            refine vc_y hF rfl rfl (by decide) _ (y_xor rfl rfl rfl rfl) (fun a hF => ?_)
            refine vc_y hF rfl rfl (by decide) _ (y_move rfl rfl) (fun a hF => ?_)
            refine vc_op rfl (fun K hK => ws_call hF rfl (by decide) cl64 rfl rfl ?_)
            with_reducible refine (right_at _ 22 22 rfl ha (by decide) (by decide) _).mono ?_
            rintro e' w' ⟨rfl, rfl⟩
            refine ⟨_, rfl, fun a hF => hK _ _ ?_⟩; clear hK K
            refine vc_y hF rfl rfl (by decide) _ (y_xor rfl rfl rfl (Sig0_int _ ha)) (fun a hF => ?_)
            refine vc_y hF rfl rfl (by decide) _ (y_add rfl rfl rfl (sum_int _ _)) (fun a hF => ?_)
            refine vc_y hF rfl rfl (by decide) _ (y_move rfl rfl) (fun a hF => ?_)
            refine vc_y hF rfl rfl (by decide) _ (y_move rfl rfl) (fun a hF => ?_)
            refine vc_y hF rfl rfl (by decide) _ (y_and rfl rfl rfl rfl) (fun a hF => ?_)
            refine vc_y hF rfl rfl (by decide) _ (y_move rfl rfl) (fun a hF => ?_)
            refine vc_y hF rfl rfl (by decide) _ (y_move rfl rfl) (fun a hF => ?_)
            refine vc_y hF rfl rfl (by decide) _ (y_move rfl rfl) (fun a hF => ?_)
            refine vc_y hF rfl rfl (by decide) _ (y_or rfl rfl rfl rfl) (fun a hF => ?_)
            refine vc_y hF rfl rfl (by decide) _ (y_and rfl rfl rfl rfl) (fun a hF => ?_)
            refine vc_y hF rfl rfl (by decide) _ (y_or rfl rfl rfl (rmaj_int _ _ _ ha hb hc)) (fun a hF => ?_)
            refine vc_y hF rfl rfl (by decide) _ (y_add rfl rfl rfl (sum_int _ _)) (fun a hF => ?_)
            refine vc_y hF rfl rfl (by decide) _ (y_ixArr rfl Tryd.underlying134 sz80 rfl rfl _ rfl (Nat.mod_lt _ (by decide)) (ad1 _ _) (rfl : (none : Option Nat) = none)) (fun a hF => ?_)
            refine vc_op rfl (fun K hK => ws_store1 hF rfl rfl hA12 rfl rfl 0 rfl (by rw [List.length_set, wc_length, ringL_length]; exact Nat.mod_lt _ (by decide)) rfl sz80 (fun w13 hA13 => hK _ _ ?_))
            clear hK K
            replace hA13 : At w [(br, 134, wc (ringL (t + 1) (rounds V (St.of st) (t + 1)))), (bw, 135, wc (ringW (max (t + 1) 16) V)), (bs, 134, wc st), (bk, 132, wc nums), (bd, 23, Z0)] w13 := by rw [← hN, ← ringl_put t S _ _ hlt]; exact hA13
            refine vc_nil ?_
            refine hK30 _ _ ?_; clear  hK30 K30
            refine wp_region_lit ?_
            refine vc_y hF rfl rfl (by decide) _ (y_move rfl rfl) (fun a hF => ?_)
            refine vc_y hF rfl rfl (by decide) _ (y_add rfl rfl rfl (IntWalk.i64_in _ (by omega))) (fun a hF => ?_)
            refine vc_y hF rfl rfl (by decide) _ (y_assign rfl rfl) (fun a hF => ?_)
            refine vc_nil ?_
            exact ⟨t + 1, by omega, by omega, hF.keep [11, 0, 2, 3, 4, 5, 7, 8, 10] rfl, hA13⟩
          · have hx15 := hVlt (t - 16 + 1)
            have hx2 := hVlt (t - 16 + 14)
            have hvt : ((add32 (add32 (add32 (wAt V (t - 16 + 0)) (sig0 (wAt V (t - 16 + 1)))) (wAt V (t - 16 + 9))) (sig1 (wAt V (t - 16 + 14))) : Nat) : Int) = (wAt V t : Nat) := by
              rw [hV, sched_word B t (by omega) hlt, show t - 16 + 0 = t - 16 by omega, show t - 16 + 1 = t - 15 by omega, show t - 16 + 9 = t - 7 by omega, show t - 16 + 14 = t - 2 by omega]
            apply wp_skip
            refine hK28 _ _ ?_; clear  hK28 K28
            apply wp_seq_k; intro K42 hK42
            apply wp_block
            apply wp_seq_k; intro K43 hK43
            apply wp_seq_k; intro K44 hK44
            refine wp_region_lit ?_
            refine vc_y hF rfl rfl (by decide) _ (y_move rfl rfl) (fun a hF => ?_)
            refine vc_y hF rfl rfl (by decide) _ (y_cmp rfl rfl rfl rfl (geq_t (by omega))) (fun a hF => ?_)
            refine vc_nil ?_
            refine hK44 _ _ ?_; clear  hK44 K44
            refine vc_true hF rfl ?_
            apply wp_seq_k; intro K45 hK45
            refine wp_region_lit ?_
            refine vc_y hF rfl rfl (by decide) _ (y_move rfl rfl) (fun a hF => ?_)
            refine vc_y hF rfl rfl (by decide) _ (y_add rfl rfl rfl (ringw_s 1 1 t rfl hlt (by decide))) (fun a hF => ?_)
            refine vc_y hF rfl rfl (by decide) _ (y_rem rfl rfl rfl (by decide) (ringw_m 1 1 t rfl)) (fun a hF => ?_)
            refine vc_y hF rfl rfl (by decide) _ (y_ixArr rfl Tryd.underlying135 sz80 rfl rfl _ rfl (Nat.mod_lt _ (by decide)) (ad1 _ _) (rfl : (none : Option Nat) = none)) (fun a hF => ?_)
            refine vc_y hF rfl rfl (by decide) _ (y_loadAt rfl hAr rfl 1 rfl (ringw_c t V 1 h16 hlt (by decide)) nr80) (fun a hF => ?_)
            refine vc_y hF rfl rfl (by decide) _ (y_assign rfl rfl) (fun a hF => ?_)
            refine vc_nil ?_
            refine hK45 _ _ ?_; clear  hK45 K45
            apply wp_seq_k; intro K46 hK46
            refine wp_region_lit ?_
            refine vc_y hF rfl rfl (by decide) _ (y_move rfl rfl) (fun a hF => ?_)
            refine vc_y hF rfl rfl (by decide) _ (y_add rfl rfl rfl (ringw_s 14 14 t rfl hlt (by decide))) (fun a hF => ?_)
            refine vc_y hF rfl rfl (by decide) _ (y_rem rfl rfl rfl (by decide) (ringw_m 14 14 t rfl)) (fun a hF => ?_)
            refine vc_y hF rfl rfl (by decide) _ (y_ixArr rfl Tryd.underlying135 sz80 rfl rfl _ rfl (Nat.mod_lt _ (by decide)) (ad1 _ _) (rfl : (none : Option Nat) = none)) (fun a hF => ?_)
            refine vc_y hF rfl rfl (by decide) _ (y_loadAt rfl hAr rfl 1 rfl (ringw_c t V 14 h16 hlt (by decide)) nr80) (fun a hF => ?_)
            refine vc_y hF rfl rfl (by decide) _ (y_assign rfl rfl) (fun a hF => ?_)
            refine vc_nil ?_
            refine hK46 _ _ ?_; clear  hK46 K46
            apply wp_seq_k; intro K47 hK47
            refine wp_region_lit ?_
            refine vc_y hF rfl rfl (by decide) _ (y_move rfl rfl) (fun a hF => ?_)
            refine vc_op rfl (fun K hK => ws_call hF rfl (by decide) cl64 rfl rfl ?_)
            with_reducible refine (right_at _ 7 7 rfl hx15 (by decide) (by decide) _).mono ?_
            rintro e' w' ⟨rfl, rfl⟩
            refine ⟨_, rfl, fun a hF => hK _ _ ?_⟩; clear hK K
            refine vc_y hF rfl rfl (by decide) _ (y_move rfl rfl) (fun a hF => ?_)
            refine vc_op rfl (fun K hK => ws_call hF rfl (by decide) cl64 rfl rfl ?_)
            with_reducible refine (right_at _ 18 18 rfl hx15 (by decide) (by decide) _).mono ?_
            rintro e' w' ⟨rfl, rfl⟩
            refine ⟨_, rfl, fun a hF => hK _ _ ?_⟩; clear hK K
            refine vc_y hF rfl rfl (by decide) _ (y_xor rfl rfl rfl rfl) (fun a hF => ?_)
            refine vc_y hF rfl rfl (by decide) _ (y_move rfl rfl) (fun a hF => ?_)
            refine vc_y hF rfl rfl (by decide) _ (y_shr rfl rfl rfl (by decide) (shr3_int _)) (fun a hF => ?_)
            refine vc_y hF rfl rfl (by decide) _ (y_xor rfl rfl rfl (sig0_int _ hx15)) (fun a hF => ?_)
            refine vc_y hF rfl rfl (by decide) _ (y_assign rfl rfl) (fun a hF => ?_)
            refine vc_nil ?_
            refine hK47 _ _ ?_; clear  hK47 K47
            apply wp_seq_k; intro K48 hK48
            refine wp_region_lit ?_
            refine vc_y hF rfl rfl (by decide) _ (y_move rfl rfl) (fun a hF => ?_)
            refine vc_op rfl (fun K hK => ws_call hF rfl (by decide) cl64 rfl rfl ?_)
            with_reducible refine (right_at _ 17 17 rfl hx2 (by decide) (by decide) _).mono ?_
            rintro e' w' ⟨rfl, rfl⟩
            refine ⟨_, rfl, fun a hF => hK _ _ ?_⟩; clear hK K
            refine vc_y hF rfl rfl (by decide) _ (y_move rfl rfl) (fun a hF => ?_)
            refine vc_op rfl (fun K hK => ws_call hF rfl (by decide) cl64 rfl rfl ?_)
            with_reducible refine (right_at _ 19 19 rfl hx2 (by decide) (by decide) _).mono ?_
            rintro e' w' ⟨rfl, rfl⟩
            refine ⟨_, rfl, fun a hF => hK _ _ ?_⟩; clear hK K
            refine vc_y hF rfl rfl (by decide) _ (y_xor rfl rfl rfl rfl) (fun a hF => ?_)
            refine vc_y hF rfl rfl (by decide) _ (y_move rfl rfl) (fun a hF => ?_)
            refine vc_y hF rfl rfl (by decide) _ (y_shr rfl rfl rfl (by decide) (shr10_int _)) (fun a hF => ?_)
            refine vc_y hF rfl rfl (by decide) _ (y_xor rfl rfl rfl (sig1_int _ hx2)) (fun a hF => ?_)
            refine vc_y hF rfl rfl (by decide) _ (y_assign rfl rfl) (fun a hF => ?_)
            refine vc_nil ?_
            refine hK48 _ _ ?_; clear  hK48 K48
            refine wp_region_plan 17 [17] [0,1,2,3,4,5,6,7,8,9,10,11,12,13,14,15,16,17] (At w [(br, 134, wc (ringL t S)), (bw, 135, wc (ringW (max t 16) V)), (bs, 134, wc st), (bk, 132, wc nums), (bd, 23, Z0)]) (by kernel_rfl) (by kernel_rfl) (hAr.drew) ?_
            refine vp_y hF rfl rfl rfl rfl (by decide) _ (fun x hx => y_move rfl rfl) (fun a hF => ?_)
            refine vp_y hF rfl rfl rfl rfl (by decide) _ (fun x hx => y_rem rfl rfl rfl (by decide) (ringw_0 t)) (fun a hF => ?_)
            refine vp_y hF rfl rfl rfl rfl (by decide) _ (fun x hx => y_move rfl rfl) (fun a hF => ?_)
            refine vp_y hF rfl rfl rfl rfl (by decide) _ (fun x hx => y_rem rfl rfl rfl (by decide) (ringw_0 t)) (fun a hF => ?_)
            refine vp_y hF rfl rfl rfl rfl (by decide) _ (fun x hx => y_ixArr rfl Tryd.underlying135 sz80 rfl rfl _ rfl (Nat.mod_lt _ (by decide)) (ad1 _ _) (rfl : (none : Option Nat) = none)) (fun a hF => ?_)
            refine vp_y hF rfl rfl rfl rfl (by decide) _ (fun x hx => y_loadAt rfl hx rfl 1 rfl (show (wc (ringW (max t 16) V))[t % 16]? = _ from ringw_c t V 0 h16 hlt (by decide)) nr80) (fun a hF => ?_)
            refine vp_y hF rfl rfl rfl rfl (by decide) _ (fun x hx => y_move rfl rfl) (fun a hF => ?_)
            refine vp_y hF rfl rfl rfl rfl (by decide) _ (fun x hx => y_add rfl rfl rfl (sum_int _ _)) (fun a hF => ?_)
            refine vp_y hF rfl rfl rfl rfl (by decide) _ (fun x hx => y_move rfl rfl) (fun a hF => ?_)
            refine vp_y hF rfl rfl rfl rfl (by decide) _ (fun x hx => y_add rfl rfl rfl (ringw_s 9 9 t rfl hlt (by decide))) (fun a hF => ?_)
            refine vp_y hF rfl rfl rfl rfl (by decide) _ (fun x hx => y_rem rfl rfl rfl (by decide) (ringw_m 9 9 t rfl)) (fun a hF => ?_)
            refine vp_y hF rfl rfl rfl rfl (by decide) _ (fun x hx => y_ixArr rfl Tryd.underlying135 sz80 rfl rfl _ rfl (Nat.mod_lt _ (by decide)) (ad1 _ _) (rfl : (none : Option Nat) = none)) (fun a hF => ?_)
            refine vp_y hF rfl rfl rfl rfl (by decide) _ (fun x hx => y_loadAt rfl hx rfl 1 rfl (ringw_c t V 9 h16 hlt (by decide)) nr80) (fun a hF => ?_)
            refine vp_y hF rfl rfl rfl rfl (by decide) _ (fun x hx => y_add rfl rfl rfl (sum_int _ _)) (fun a hF => ?_)
            refine vp_y hF rfl rfl rfl rfl (by decide) _ (fun x hx => y_move rfl rfl) (fun a hF => ?_)
            refine vp_y hF rfl rfl rfl rfl (by decide) _ (fun x hx => y_add rfl rfl rfl ((sum_int _ _).trans hvt)) (fun a hF => ?_)
            refine vp_y hF rfl rfl rfl rfl (by decide) _ (fun x hx => y_ixArr rfl Tryd.underlying135 sz80 rfl rfl _ rfl (Nat.mod_lt _ (by decide)) (ad1 _ _) (rfl : (none : Option Nat) = none)) (fun a hF => ?_)
            refine vp_l rfl rfl rfl (fun K hK => ws_store1 hF rfl rfl hAr.drew rfl rfl 1 rfl (by rw [wc_length, ringW_length]; exact Nat.mod_lt _ (by decide)) rfl sz80 (fun w11 hAw => hK _ _ (fun h => absurd h (by decide)) ?_))
            clear hK K
            replace hAw : At w [(br, 134, wc (ringL t S)), (bw, 135, wc (ringW (max (t + 1) 16) V)), (bs, 134, wc st), (bk, 132, wc nums), (bd, 23, Z0)] w11 := by rw [← ringw_put t V h16 hlt]; exact hAw
            refine plan_end ?_
            replace hF := hF.keep [11, 0, 2, 3, 4, 5, 7, 8, 10] rfl
            refine hK43 _ _ ?_; clear  hK43 K43
            apply wp_seq_k; intro K49 hK49
            refine wp_region_lit ?_
            refine vc_y hF rfl rfl (by decide) _ (y_move rfl rfl) (fun a hF => ?_)
            refine vc_y hF rfl rfl (by decide) _ (y_sub rfl rfl rfl (ring_s 64 64 t rfl hlt (by decide))) (fun a hF => ?_)
            refine vc_y hF rfl rfl (by decide) _ (y_rem rfl rfl rfl (by decide) (ring_m 64 64 t rfl hlt (by decide))) (fun a hF => ?_)
            refine vc_y hF rfl rfl (by decide) _ (y_ixArr rfl Tryd.underlying134 sz80 rfl rfl _ rfl (Nat.mod_lt _ (by decide)) (ad1 _ _) (rfl : (none : Option Nat) = none)) (fun a hF => ?_)
            refine vc_y hF rfl rfl (by decide) _ (y_loadAt rfl hAw rfl 0 rfl (show (wc (ringL t S))[(64 - t) % 8]? = some (.int .u32 (S.a : Nat)) from ring_c t S 64 0 rfl hlt (by decide)) nr80) (fun a hF => ?_)
            refine vc_y hF rfl rfl (by decide) _ (y_assign rfl rfl) (fun a hF => ?_)
            refine vc_nil ?_
            refine hK49 _ _ ?_; clear  hK49 K49
            apply wp_seq_k; intro K50 hK50
            refine wp_region_lit ?_
            refine vc_y hF rfl rfl (by decide) _ (y_move rfl rfl) (fun a hF => ?_)
            refine vc_y hF rfl rfl (by decide) _ (y_sub rfl rfl rfl (ring_s 68 68 t rfl hlt (by decide))) (fun a hF => ?_)
            refine vc_y hF rfl rfl (by decide) _ (y_rem rfl rfl rfl (by decide) (ring_m 68 68 t rfl hlt (by decide))) (fun a hF => ?_)
            refine vc_y hF rfl rfl (by decide) _ (y_ixArr rfl Tryd.underlying134 sz80 rfl rfl _ rfl (Nat.mod_lt _ (by decide)) (ad1 _ _) (rfl : (none : Option Nat) = none)) (fun a hF => ?_)
            refine vc_y hF rfl rfl (by decide) _ (y_loadAt rfl hAw rfl 0 rfl (show (wc (ringL t S))[(68 - t) % 8]? = some (.int .u32 (S.e : Nat)) from ring_c t S 68 4 rfl hlt (by decide)) nr80) (fun a hF => ?_)
            refine vc_y hF rfl rfl (by decide) _ (y_assign rfl rfl) (fun a hF => ?_)
            refine vc_nil ?_
            refine hK50 _ _ ?_; clear  hK50 K50
            apply wp_seq_k; intro K51 hK51
            refine wp_region_lit ?_
            refine vc_y hF rfl rfl (by decide) _ (y_move rfl rfl) (fun a hF => ?_)
            refine vc_y hF rfl rfl (by decide) _ (y_sub rfl rfl rfl (ring_s 69 69 t rfl hlt (by decide))) (fun a hF => ?_)
            refine vc_y hF rfl rfl (by decide) _ (y_rem rfl rfl rfl (by decide) (ring_m 69 69 t rfl hlt (by decide))) (fun a hF => ?_)
            refine vc_y hF rfl rfl (by decide) _ (y_ixArr rfl Tryd.underlying134 sz80 rfl rfl _ rfl (Nat.mod_lt _ (by decide)) (ad1 _ _) (rfl : (none : Option Nat) = none)) (fun a hF => ?_)
            refine vc_y hF rfl rfl (by decide) _ (y_loadAt rfl hAw rfl 0 rfl (show (wc (ringL t S))[(69 - t) % 8]? = some (.int .u32 (S.f : Nat)) from ring_c t S 69 5 rfl hlt (by decide)) nr80) (fun a hF => ?_)
            refine vc_y hF rfl rfl (by decide) _ (y_assign rfl rfl) (fun a hF => ?_)
            refine vc_nil ?_
            refine hK51 _ _ ?_; clear  hK51 K51
            apply wp_seq_k; intro K52 hK52
            refine wp_region_lit ?_
            refine vc_y hF rfl rfl (by decide) _ (y_move rfl rfl) (fun a hF => ?_)
            refine vc_y hF rfl rfl (by decide) _ (y_sub rfl rfl rfl (ring_s 70 70 t rfl hlt (by decide))) (fun a hF => ?_)
            refine vc_y hF rfl rfl (by decide) _ (y_rem rfl rfl rfl (by decide) (ring_m 70 70 t rfl hlt (by decide))) (fun a hF => ?_)
            refine vc_y hF rfl rfl (by decide) _ (y_ixArr rfl Tryd.underlying134 sz80 rfl rfl _ rfl (Nat.mod_lt _ (by decide)) (ad1 _ _) (rfl : (none : Option Nat) = none)) (fun a hF => ?_)
            refine vc_y hF rfl rfl (by decide) _ (y_loadAt rfl hAw rfl 0 rfl (show (wc (ringL t S))[(70 - t) % 8]? = some (.int .u32 (S.g : Nat)) from ring_c t S 70 6 rfl hlt (by decide)) nr80) (fun a hF => ?_)
            refine vc_y hF rfl rfl (by decide) _ (y_assign rfl rfl) (fun a hF => ?_)
            refine vc_nil ?_
            refine hK52 _ _ ?_; clear  hK52 K52
            apply wp_seq_k; intro K53 hK53
            refine wp_region_lit ?_
            refine vc_y hF rfl rfl (by decide) _ (y_move rfl rfl) (fun a hF => ?_)
            refine vc_y hF rfl rfl (by decide) _ (y_sub rfl rfl rfl (ring_s 71 71 t rfl hlt (by decide))) (fun a hF => ?_)
            refine vc_y hF rfl rfl (by decide) _ (y_rem rfl rfl rfl (by decide) (ring_m 71 71 t rfl hlt (by decide))) (fun a hF => ?_)
            refine vc_y hF rfl rfl (by decide) _ (y_assign rfl rfl) (fun a hF => ?_)
            refine vc_nil ?_
            replace hF := hF.keep [11, 0, 2, 3, 4, 5, 7, 8, 10, 14, 15, 16, 17, 18] rfl
            refine hK53 _ _ ?_; clear  hK53 K53
            apply wp_seq_k; intro K54 hK54
            refine wp_region_plan 29 [4,6,9,29] [0,1,2,3,5,8,12,13,14,15,16,17,18,20,21,22,24,25,26,27,4,6,7,9,10,11,19,23,28,29] (At w [(br, 134, wc (ringL t S)), (bw, 135, wc (ringW (max (t + 1) 16) V)), (bs, 134, wc st), (bk, 132, wc nums), (bd, 23, Z0)]) (by kernel_rfl) (by kernel_rfl) (hAw.drew) ?_
            refine vp_y hF rfl rfl rfl rfl (by decide) _ (fun x hx => y_move rfl rfl) (fun a hF => ?_)
            refine vp_y hF rfl rfl rfl rfl (by decide) _ (fun x hx => y_ixArr rfl Tryd.underlying134 sz80 rfl rfl _ rfl (Nat.mod_lt _ (by decide)) (ad1 _ _) (rfl : (none : Option Nat) = none)) (fun a hF => ?_)
            refine vp_y hF rfl rfl rfl rfl (by decide) _ (fun x hx => y_loadAt rfl hx rfl 0 rfl (show (wc (ringL t S))[(71 - t) % 8]? = some (.int .u32 (S.h : Nat)) from ring_c t S 71 7 rfl hlt (by decide)) nr80) (fun a hF => ?_)
            refine vp_y hF rfl rfl rfl rfl (by decide) _ (fun x hx => y_move rfl rfl) (fun a hF => ?_)
            refine vp_y hF rfl rfl rfl rfl (by decide) _ (fun x hx => y_move rfl rfl) (fun a hF => ?_)
            refine vp_y hF rfl rfl rfl rfl (by decide) _ (fun x hx => y_move rfl rfl) (fun a hF => ?_)
            refine vp_y hF rfl rfl rfl rfl (by decide) _ (fun x hx => y_move rfl rfl) (fun a hF => ?_)
            refine vp_y hF rfl rfl rfl rfl (by decide) _ (fun x hx => y_move rfl rfl) (fun a hF => ?_)
            refine vp_y hF rfl rfl rfl rfl (by decide) _ (fun x hx => y_move rfl rfl) (fun a hF => ?_)
            refine vp_y hF rfl rfl rfl rfl (by decide) _ (fun x hx => y_move rfl rfl) (fun a hF => ?_)
            refine vp_y hF rfl rfl rfl rfl (by decide) _ (fun x hx => y_xor rfl rfl rfl rfl) (fun a hF => ?_)
            refine vp_y hF rfl rfl rfl rfl (by decide) _ (fun x hx => y_and rfl rfl rfl rfl) (fun a hF => ?_)
            refine vp_y hF rfl rfl rfl rfl (by decide) _ (fun x hx => y_xor rfl rfl rfl (rch_int _ _ _ he hf hg)) (fun a hF => ?_)
            refine vp_y hF rfl rfl rfl rfl (by decide) _ (fun x hx => y_move rfl rfl) (fun a hF => ?_)
            refine vp_y hF rfl rfl rfl rfl (by decide) _ (fun x hx => y_ixArr rfl Tryd.underlying132 sz80 rfl rfl t rfl (by omega) (ad1 _ _) (rfl : (none : Option Nat) = none)) (fun a hF => ?_)
            refine vp_y hF rfl rfl rfl rfl (by decide) _ (fun x hx => y_loadAt rfl hx rfl 3 rfl (show (wc nums)[t]? = some (.int .u32 (wAt ks t : Nat)) by rw [wc_at (by rw [nums_length]; omega), nums_ks t hlt]) nr80) (fun a hF => ?_)
            refine vp_y hF rfl rfl rfl rfl (by decide) _ (fun x hx => y_move rfl rfl) (fun a hF => ?_)
            refine vp_y hF rfl rfl rfl rfl (by decide) _ (fun x hx => y_rem rfl rfl rfl (by decide) (ringw_0 t)) (fun a hF => ?_)
            refine vp_y hF rfl rfl rfl rfl (by decide) _ (fun x hx => y_ixArr rfl Tryd.underlying135 sz80 rfl rfl _ rfl (Nat.mod_lt _ (by decide)) (ad1 _ _) (rfl : (none : Option Nat) = none)) (fun a hF => ?_)
            refine vp_y hF rfl rfl rfl rfl (by decide) _ (fun x hx => y_loadAt rfl hx rfl 1 rfl (ringw_now t V hlt) nr80) (fun a hF => ?_)
            refine vp_l rfl rfl rfl (fun K hK => ws_call hF rfl (by decide) cl64 rfl rfl ?_)
            with_reducible refine (right_at _ 6 6 rfl he (by decide) (by decide) _).mono ?_
            rintro e' w' ⟨rfl, rfl⟩
            refine ⟨_, rfl, fun a hF => hK _ _ (fun _ => hAw.drew) ?_⟩; clear hK K
            refine vp_l rfl rfl rfl (fun K hK => ws_call hF rfl (by decide) cl64 rfl rfl ?_)
            with_reducible refine (right_at _ 11 11 rfl he (by decide) (by decide) _).mono ?_
            rintro e' w' ⟨rfl, rfl⟩
            refine ⟨_, rfl, fun a hF => hK _ _ (fun _ => hAw.drew) ?_⟩; clear hK K
            refine vp_y hF rfl rfl rfl rfl (by decide) _ (fun x hx => y_xor rfl rfl rfl rfl) (fun a hF => ?_)
            refine vp_l rfl rfl rfl (fun K hK => ws_call hF rfl (by decide) cl64 rfl rfl ?_)
            with_reducible refine (right_at _ 25 25 rfl he (by decide) (by decide) _).mono ?_
            rintro e' w' ⟨rfl, rfl⟩
            refine ⟨_, rfl, fun a hF => hK _ _ (fun _ => hAw.drew) ?_⟩; clear hK K
            refine vp_y hF rfl rfl rfl rfl (by decide) _ (fun x hx => y_xor rfl rfl rfl (Sig1_int _ he)) (fun a hF => ?_)
            refine vp_y hF rfl rfl rfl rfl (by decide) _ (fun x hx => y_add rfl rfl rfl (sum_int _ _)) (fun a hF => ?_)
            refine vp_y hF rfl rfl rfl rfl (by decide) _ (fun x hx => y_add rfl rfl rfl (sum_int _ _)) (fun a hF => ?_)
            refine vp_y hF rfl rfl rfl rfl (by decide) _ (fun x hx => y_add rfl rfl rfl (sum_int _ _)) (fun a hF => ?_)
            refine vp_y hF rfl rfl rfl rfl (by decide) _ (fun x hx => y_add rfl rfl rfl (sum_int _ _)) (fun a hF => ?_)
            refine vp_ly hF rfl rfl rfl rfl (by decide) _ (y_assign rfl rfl) (fun h => absurd h (by decide)) (fun a hF => ?_)
            refine plan_end ?_
            have hA11 := hAw.drew
            refine hK54 _ _ ?_; clear  hK54 K54
            apply wp_seq_k; intro K55 hK55
            refine wp_region_lit ?_
            refine vc_y hF rfl rfl (by decide) _ (y_move rfl rfl) (fun a hF => ?_)
            refine vc_y hF rfl rfl (by decide) _ (y_sub rfl rfl rfl (ring_s 65 65 t rfl hlt (by decide))) (fun a hF => ?_)
            refine vc_y hF rfl rfl (by decide) _ (y_rem rfl rfl rfl (by decide) (ring_m 65 65 t rfl hlt (by decide))) (fun a hF => ?_)
            refine vc_y hF rfl rfl (by decide) _ (y_ixArr rfl Tryd.underlying134 sz80 rfl rfl _ rfl (Nat.mod_lt _ (by decide)) (ad1 _ _) (rfl : (none : Option Nat) = none)) (fun a hF => ?_)
            refine vc_y hF rfl rfl (by decide) _ (y_loadAt rfl hA11 rfl 0 rfl (show (wc (ringL t S))[(65 - t) % 8]? = some (.int .u32 (S.b : Nat)) from ring_c t S 65 1 rfl hlt (by decide)) nr80) (fun a hF => ?_)
            refine vc_y hF rfl rfl (by decide) _ (y_assign rfl rfl) (fun a hF => ?_)
            refine vc_nil ?_
            refine hK55 _ _ ?_; clear  hK55 K55
            apply wp_seq_k; intro K56 hK56
            refine wp_region_lit ?_
            refine vc_y hF rfl rfl (by decide) _ (y_move rfl rfl) (fun a hF => ?_)
            refine vc_y hF rfl rfl (by decide) _ (y_sub rfl rfl rfl (ring_s 66 66 t rfl hlt (by decide))) (fun a hF => ?_)
            refine vc_y hF rfl rfl (by decide) _ (y_rem rfl rfl rfl (by decide) (ring_m 66 66 t rfl hlt (by decide))) (fun a hF => ?_)
            refine vc_y hF rfl rfl (by decide) _ (y_ixArr rfl Tryd.underlying134 sz80 rfl rfl _ rfl (Nat.mod_lt _ (by decide)) (ad1 _ _) (rfl : (none : Option Nat) = none)) (fun a hF => ?_)
            refine vc_y hF rfl rfl (by decide) _ (y_loadAt rfl hA11 rfl 0 rfl (show (wc (ringL t S))[(66 - t) % 8]? = some (.int .u32 (S.c : Nat)) from ring_c t S 66 2 rfl hlt (by decide)) nr80) (fun a hF => ?_)
            refine vc_y hF rfl rfl (by decide) _ (y_assign rfl rfl) (fun a hF => ?_)
            refine vc_nil ?_
            refine hK56 _ _ ?_; clear  hK56 K56
            apply wp_seq_k; intro K57 hK57
            refine wp_region_lit ?_
            refine vc_y hF rfl rfl (by decide) _ (y_move rfl rfl) (fun a hF => ?_)
            refine vc_y hF rfl rfl (by decide) _ (y_sub rfl rfl rfl (ring_s 67 67 t rfl hlt (by decide))) (fun a hF => ?_)
            refine vc_y hF rfl rfl (by decide) _ (y_rem rfl rfl rfl (by decide) (ring_m 67 67 t rfl hlt (by decide))) (fun a hF => ?_)
            refine vc_y hF rfl rfl (by decide) _ (y_move rfl rfl) (fun a hF => ?_)
            refine vc_y hF rfl rfl (by decide) _ (y_sub rfl rfl rfl (ring_s 67 67 t rfl hlt (by decide))) (fun a hF => ?_)
            refine vc_y hF rfl rfl (by decide) _ (y_rem rfl rfl rfl (by decide) (ring_m 67 67 t rfl hlt (by decide))) (fun a hF => ?_)
            refine vc_y hF rfl rfl (by decide) _ (y_ixArr rfl Tryd.underlying134 sz80 rfl rfl _ rfl (Nat.mod_lt _ (by decide)) (ad1 _ _) (rfl : (none : Option Nat) = none)) (fun a hF => ?_)
            refine vc_y hF rfl rfl (by decide) _ (y_loadAt rfl hA11 rfl 0 rfl (show (wc (ringL t S))[(67 - t) % 8]? = some (.int .u32 (S.d : Nat)) from ring_c t S 67 3 rfl hlt (by decide)) nr80) (fun a hF => ?_)
            refine vc_y hF rfl rfl (by decide) _ (y_move rfl rfl) (fun a hF => ?_)
            refine vc_y hF rfl rfl (by decide) _ (y_add rfl rfl rfl (sum_int _ _)) (fun a hF => ?_)
            refine vc_y hF rfl rfl (by decide) _ (y_ixArr rfl Tryd.underlying134 sz80 rfl rfl _ rfl (Nat.mod_lt _ (by decide)) (ad1 _ _) (rfl : (none : Option Nat) = none)) (fun a hF => ?_)
            refine vc_op rfl (fun K hK => ws_store1 hF rfl rfl hA11 rfl rfl 0 rfl (by rw [wc_length, ringL_length]; exact Nat.mod_lt _ (by decide)) rfl sz80 (fun w12 hA12 => hK _ _ ?_))
            clear hK K
            refine vc_nil ?_
            refine hK57 _ _ ?_; clear  hK57 K57
            refine wp_region_lit ?_
            refine vc_y hF rfl rfl (by decide) _ (y_move rfl rfl) (fun a hF => ?_)
            refine vc_y hF rfl rfl (by decide) _ (y_move rfl rfl) (fun a hF => ?_)
            refine vc_y hF rfl rfl (by decide) _ (y_move rfl rfl) (fun a hF => ?_)
            refine vc_op rfl (fun K hK => ws_call hF rfl (by decide) cl64 rfl rfl ?_)
            with_reducible refine (right_at _ 2 2 rfl ha (by decide) (by decide) _).mono ?_
            rintro e' w' ⟨rfl, rfl⟩
            refine ⟨_, rfl, fun a hF => hK _ _ ?_⟩; clear hK K
            refine vc_y hF rfl rfl (by decide) _ (y_move rfl rfl) (fun a hF => ?_)
            refine vc_op rfl (fun K hK => ws_call hF rfl (by decide) cl64 rfl rfl ?_)
            with_reducible refine (right_at _ 13 13 rfl ha (by decide) (by decide) _).mono ?_
            rintro e' w' ⟨rfl, rfl⟩
            refine ⟨_, rfl, fun a hF => hK _ _ ?_⟩; clear hK K
            refine vc_y hF rfl rfl (by decide) _ (y_xor rfl rfl rfl rfl) (fun a hF => ?_)
            refine vc_y hF rfl rfl (by decide) _ (y_move rfl rfl) (fun a hF => ?_)
            refine vc_op rfl (fun K hK => ws_call hF rfl (by decide) cl64 rfl rfl ?_)
            with_reducible refine (right_at _ 22 22 rfl ha (by decide) (by decide) _).mono ?_
            rintro e' w' ⟨rfl, rfl⟩
            refine ⟨_, rfl, fun a hF => hK _ _ ?_⟩; clear hK K
            refine vc_y hF rfl rfl (by decide) _ (y_xor rfl rfl rfl (Sig0_int _ ha)) (fun a hF => ?_)
            refine vc_y hF rfl rfl (by decide) _ (y_add rfl rfl rfl (sum_int _ _)) (fun a hF => ?_)
            refine vc_y hF rfl rfl (by decide) _ (y_move rfl rfl) (fun a hF => ?_)
            refine vc_y hF rfl rfl (by decide) _ (y_move rfl rfl) (fun a hF => ?_)
            refine vc_y hF rfl rfl (by decide) _ (y_and rfl rfl rfl rfl) (fun a hF => ?_)
            refine vc_y hF rfl rfl (by decide) _ (y_move rfl rfl) (fun a hF => ?_)
            refine vc_y hF rfl rfl (by decide) _ (y_move rfl rfl) (fun a hF => ?_)
            refine vc_y hF rfl rfl (by decide) _ (y_move rfl rfl) (fun a hF => ?_)
            refine vc_y hF rfl rfl (by decide) _ (y_or rfl rfl rfl rfl) (fun a hF => ?_)
            refine vc_y hF rfl rfl (by decide) _ (y_and rfl rfl rfl rfl) (fun a hF => ?_)
            refine vc_y hF rfl rfl (by decide) _ (y_or rfl rfl rfl (rmaj_int _ _ _ ha hb hc)) (fun a hF => ?_)
            refine vc_y hF rfl rfl (by decide) _ (y_add rfl rfl rfl (sum_int _ _)) (fun a hF => ?_)
            refine vc_y hF rfl rfl (by decide) _ (y_ixArr rfl Tryd.underlying134 sz80 rfl rfl _ rfl (Nat.mod_lt _ (by decide)) (ad1 _ _) (rfl : (none : Option Nat) = none)) (fun a hF => ?_)
            refine vc_op rfl (fun K hK => ws_store1 hF rfl rfl hA12 rfl rfl 0 rfl (by rw [List.length_set, wc_length, ringL_length]; exact Nat.mod_lt _ (by decide)) rfl sz80 (fun w13 hA13 => hK _ _ ?_))
            clear hK K
            replace hA13 : At w [(br, 134, wc (ringL (t + 1) (rounds V (St.of st) (t + 1)))), (bw, 135, wc (ringW (max (t + 1) 16) V)), (bs, 134, wc st), (bk, 132, wc nums), (bd, 23, Z0)] w13 := by rw [← hN, ← ringl_put t S _ _ hlt]; exact hA13
            refine vc_nil ?_
            refine hK42 _ _ ?_; clear  hK42 K42
            refine wp_region_lit ?_
            refine vc_y hF rfl rfl (by decide) _ (y_move rfl rfl) (fun a hF => ?_)
            refine vc_y hF rfl rfl (by decide) _ (y_add rfl rfl rfl (IntWalk.i64_in _ (by omega))) (fun a hF => ?_)
            refine vc_y hF rfl rfl (by decide) _ (y_assign rfl rfl) (fun a hF => ?_)
            refine vc_nil ?_
            exact ⟨t + 1, by omega, by omega, hF.keep [11, 0, 2, 3, 4, 5, 7, 8, 10] rfl, hA13⟩
        · obtain rfl : t = 64 := by omega
          obtain ⟨R, hR⟩ : ∃ R, R = (rounds V (St.of st) 64).list := ⟨_, rfl⟩
          have hRl : R.length = 8 := by rw [hR]; rfl
          obtain ⟨W, hW⟩ : ∃ W, W = ringW (max 64 16) V := ⟨_, rfl⟩
          have hCe : cur st R 8 = blocks (j + 1) init8 P := by rw [cur_end, ← hC, hR, hV]; rfl
          replace hAr : At w [(br, 134, wc R), (bw, 135, wc W), (bs, 134, wc (cur st R 0)), (bk, 132, wc nums), (bd, 23, Z0)] wr := by rw [cur_zero st R hsl, hR, hW, ← ringL_stop]; exact hAr
          apply wp_seq_k; intro K58 hK58
          apply wp_seq_k; intro K59 hK59
          refine wp_region_lit ?_
          refine vc_y hF rfl rfl (by decide) _ (y_move rfl rfl) (fun a hF => ?_)
          refine vc_y hF rfl rfl (by decide) _ (y_cmp rfl rfl rfl rfl (lss_f (by omega))) (fun a hF => ?_)
          refine vc_nil ?_
          refine hK59 _ _ ?_; clear  hK59 K59
          refine vc_false hF rfl ?_
          apply wp_exit
          refine hK26 _ _ ?_; clear hK58 K58 hK26 K26
          apply wp_seq_k; intro K60 hK60
          refine wp_region_lit ?_
          refine vc_y hF rfl rfl (by decide) _ (y_assign rfl rfl) (fun a hF => ?_)
          refine vc_nil ?_
          refine hK60 _ _ ?_; clear  hK60 K60
          apply wp_block
          refine vc_loop (G := Nat) (fun k a x => k ≤ 8 ∧ Fr 242 [(22, .int .i64 (k : Int)), (0, .slice A n c), (2, .pointer (some ⟨bd, 0, none⟩)), (3, .pointer (some ⟨bk, 0, none⟩)), (4, .int .i64 ((64 * nb : Nat) : Int)), (5, .pointer (some ⟨bs, 0, none⟩)), (7, .int .i64 (64 * (j : Int))), (10, .pointer (some ⟨br, 0, none⟩))] a ∧ At w [(br, 134, wc R), (bw, 135, wc W), (bs, 134, wc (cur st R k)), (bk, 132, wc nums), (bd, 23, Z0)] x) (fun k => 8 - k) 0 ⟨Nat.zero_le _, hF.keep [22, 0, 2, 3, 4, 5, 7, 10] rfl, hAr⟩ ?_
          clear hF
          rintro k a wr ⟨hk, hF, hAr⟩
          clear ht
          by_cases hlt : k < 8
          · apply wp_seq_k; intro K61 hK61
            apply wp_seq_k; intro K62 hK62
            refine wp_region_lit ?_
            refine vc_y hF rfl rfl (by decide) _ (y_move rfl rfl) (fun a hF => ?_)
            refine vc_y hF rfl rfl (by decide) _ (y_cmp rfl rfl rfl rfl (lss_t (by omega))) (fun a hF => ?_)
            refine vc_nil ?_
            refine hK62 _ _ ?_; clear  hK62 K62
            refine vc_true hF rfl ?_
            apply wp_skip
            refine hK61 _ _ ?_; clear  hK61 K61
            apply wp_seq_k; intro K63 hK63
            apply wp_block
            refine wp_region_plan 9 [9] [0,1,2,3,4,5,6,7,8,9] (At w [(br, 134, wc R), (bw, 135, wc W), (bs, 134, wc (cur st R k)), (bk, 132, wc nums), (bd, 23, Z0)]) (by kernel_rfl) (by kernel_rfl) (hAr.drew) ?_
            refine vp_y hF rfl rfl rfl rfl (by decide) _ (fun x hx => y_move rfl rfl) (fun a hF => ?_)
            refine vp_y hF rfl rfl rfl rfl (by decide) _ (fun x hx => y_move rfl rfl) (fun a hF => ?_)
            refine vp_y hF rfl rfl rfl rfl (by decide) _ (fun x hx => y_ixArr rfl Tryd.underlying134 sz80 rfl rfl k rfl hlt (ad1 _ _) (rfl : (none : Option Nat) = none)) (fun a hF => ?_)
            refine vp_y hF rfl rfl rfl rfl (by decide) _ (fun x hx => y_loadAt rfl hx rfl 2 rfl (cur_at st R k hlt) nr80) (fun a hF => ?_)
            refine vp_y hF rfl rfl rfl rfl (by decide) _ (fun x hx => y_move rfl rfl) (fun a hF => ?_)
            refine vp_y hF rfl rfl rfl rfl (by decide) _ (fun x hx => y_ixArr rfl Tryd.underlying134 sz80 rfl rfl k rfl hlt (ad1 _ _) (rfl : (none : Option Nat) = none)) (fun a hF => ?_)
            refine vp_y hF rfl rfl rfl rfl (by decide) _ (fun x hx => y_loadAt rfl hx rfl 0 rfl (wc_at (by rw [hRl]; exact hlt)) nr80) (fun a hF => ?_)
            refine vp_y hF rfl rfl rfl rfl (by decide) _ (fun x hx => y_add rfl rfl rfl (sum_int _ _)) (fun a hF => ?_)
            refine vp_y hF rfl rfl rfl rfl (by decide) _ (fun x hx => y_ixArr rfl Tryd.underlying134 sz80 rfl rfl k rfl hlt (ad1 _ _) (rfl : (none : Option Nat) = none)) (fun a hF => ?_)
            refine vp_l rfl rfl rfl (fun K hK => ws_store1 hF rfl rfl hAr.drew rfl rfl 2 rfl (by rw [wc_length, cur_length]; exact hlt) rfl sz80 (fun w14 hA14 => hK _ _ (fun h => absurd h (by decide)) ?_))
            clear hK K
            replace hA14 : At w [(br, 134, wc R), (bw, 135, wc W), (bs, 134, wc (cur st R (k + 1))), (bk, 132, wc nums), (bd, 23, Z0)] w14 := by rw [← cur_step st R k hlt]; exact hA14
            refine plan_end ?_
            refine hK63 _ _ ?_; clear  hK63 K63
            refine wp_region_lit ?_
            refine vc_y hF rfl rfl (by decide) _ (y_move rfl rfl) (fun a hF => ?_)
            refine vc_y hF rfl rfl (by decide) _ (y_add rfl rfl rfl (IntWalk.i64_in _ (by omega))) (fun a hF => ?_)
            refine vc_y hF rfl rfl (by decide) _ (y_assign rfl rfl) (fun a hF => ?_)
            refine vc_nil ?_
            exact ⟨k + 1, by omega, by omega, hF.keep [22, 0, 2, 3, 4, 5, 7, 10] rfl, hA14⟩
          · obtain rfl : k = 8 := by omega
            rw [hCe] at hAr
            have hA15 : At w [(bs, 134, wc (blocks (j + 1) init8 P)), (bk, 132, wc nums), (bd, 23, Z0)] wr := hAr.drop (List.Sublist.cons _ (List.Sublist.cons _ (List.Sublist.refl _))) (fun r hr hlt' => by
              simp only [List.mem_cons, List.not_mem_nil, or_false] at hr ⊢
              rcases hr with rfl | rfl | rfl | rfl | rfl
              · simp only at hlt'; omega
              · simp only at hlt'; omega
              · exact .inl rfl
              · exact .inr (.inl rfl)
              · exact .inr (.inr rfl))
            apply wp_seq_k; intro K64 hK64
            apply wp_seq_k; intro K65 hK65
            refine wp_region_lit ?_
            refine vc_y hF rfl rfl (by decide) _ (y_move rfl rfl) (fun a hF => ?_)
            refine vc_y hF rfl rfl (by decide) _ (y_cmp rfl rfl rfl rfl (lss_f (by omega))) (fun a hF => ?_)
            refine vc_nil ?_
            refine hK65 _ _ ?_; clear  hK65 K65
            refine vc_false hF rfl ?_
            apply wp_exit
            refine hK16 _ _ ?_; clear hK64 K64 hK16 K16
            refine wp_region_lit ?_
            refine vc_y hF rfl rfl (by decide) _ (y_move rfl rfl) (fun a hF => ?_)
            refine vc_y hF rfl rfl (by decide) _ (y_add rfl rfl rfl (show IntKind.i64.wrap (64 * (j : Int) + 64) = 64 * ((j + 1 : Nat) : Int) by rw [IntWalk.i64_in _ (by omega)]; omega)) (fun a hF => ?_)
            refine vc_y hF rfl rfl (by decide) _ (y_assign rfl rfl) (fun a hF => ?_)
            refine vc_nil ?_
            exact ⟨j + 1, by omega, by omega, hF.keep [7, 0, 2, 3, 4, 5] rfl, hA15⟩
    · obtain rfl : nb = j := by omega
      obtain ⟨st, hst⟩ : ∃ st, st = blocks nb init8 P := ⟨_, rfl⟩
      have hsl : st.length = 8 := by rw [hst]; exact blocks_length _ _ _ rfl
      have hSha : ob st 32 = sha l := by rw [show (32 : Nat) = 4 * 8 from rfl, ob_end st hsl, sha_padded, hst, hP, ← hn, ← hwh, Nat.mul_div_cancel_left _ (by decide)]
      rw [← hst] at hAr
      apply wp_seq_k; intro K66 hK66
      apply wp_seq_k; intro K67 hK67
      refine wp_region_lit ?_
      refine vc_y hF rfl rfl (by decide) _ (y_move rfl rfl) (fun a hF => ?_)
      refine vc_y hF rfl rfl (by decide) _ (y_move rfl rfl) (fun a hF => ?_)
      refine vc_y hF rfl rfl (by decide) _ (y_cmp rfl rfl rfl rfl (lss_f (by omega))) (fun a hF => ?_)
      refine vc_nil ?_
      refine hK67 _ _ ?_; clear  hK67 K67
      refine vc_false hF rfl ?_
      apply wp_exit
      refine hK12 _ _ ?_; clear hK66 K66 hK12 K12
      apply wp_seq_k; intro K68 hK68
      refine wp_region_lit ?_
      refine vc_op rfl (fun K hK => ws_alloc hF rfl (by decide) rfl hAr zero36 (fun bo w16 a hbo hF hA16 => hK _ _ ?_))
      clear hK K
      refine vc_nil ?_
      refine hK68 _ _ ?_; clear  hK68 K68
      apply wp_seq_k; intro K69 hK69
      apply wp_seq_k; intro K70 hK70
      refine wp_region_lit ?_
      refine vc_y hF rfl rfl (by decide) _ (y_assign rfl rfl) (fun a hF => ?_)
      refine vc_nil ?_
      refine hK70 _ _ ?_; clear  hK70 K70
      apply wp_block
      have q5 : bs < bo := by have := hAr.lt (k := 0) rfl; omega
      refine vc_loop (G := Nat) (fun i a x => i ≤ 32 ∧ Fr 242 [(24, .int .i64 (i : Int)), (0, .slice A n c), (2, .pointer (some ⟨bd, 0, none⟩)), (3, .pointer (some ⟨bk, 0, none⟩)), (4, .int .i64 ((64 * nb : Nat) : Int)), (5, .pointer (some ⟨bs, 0, none⟩)), (23, .pointer (some ⟨bo, 0, none⟩))] a ∧ At w [(bo, 23, dc (ob st i)), (bs, 134, wc st), (bk, 132, wc nums), (bd, 23, Z0)] x) (fun i => 32 - i) 0 ⟨Nat.zero_le _, hF.keep [24, 0, 2, 3, 4, 5, 23] rfl, hA16⟩ ?_
      clear hF
      rintro i a wr ⟨hi, hF, hAr⟩
      by_cases hlt : i < 32
      · apply wp_seq_k; intro K71 hK71
        apply wp_seq_k; intro K72 hK72
        refine wp_region_lit ?_
        refine vc_y hF rfl rfl (by decide) _ (y_move rfl rfl) (fun a hF => ?_)
        refine vc_y hF rfl rfl (by decide) _ (y_cmp rfl rfl rfl rfl (lss_t (by omega))) (fun a hF => ?_)
        refine vc_nil ?_
        refine hK72 _ _ ?_; clear  hK72 K72
        refine vc_true hF rfl ?_
        apply wp_skip
        refine hK71 _ _ ?_; clear  hK71 K71
        apply wp_seq_k; intro K73 hK73
        apply wp_block
        refine wp_region_lit ?_
        refine vc_y hF rfl rfl (by decide) _ (y_move rfl rfl) (fun a hF => ?_)
        refine vc_y hF rfl rfl (by decide) _ (y_move rfl rfl) (fun a hF => ?_)
        refine vc_y hF rfl rfl (by decide) _ (y_quo rfl rfl rfl (by decide) (div4_lt i (by omega))) (fun a hF => ?_)
        refine vc_y hF rfl rfl (by decide) _ (y_ixArr rfl Tryd.underlying134 sz80 rfl rfl (i / 4) rfl (by omega) (ad1 _ _) (rfl : (none : Option Nat) = none)) (fun a hF => ?_)
        refine vc_y hF rfl rfl (by decide) _ (y_loadAt rfl hAr rfl 1 rfl (wc_at (by rw [hsl]; omega)) nr80) (fun a hF => ?_)
        refine vc_y hF rfl rfl (by decide) _ (y_move rfl rfl) (fun a hF => ?_)
        refine vc_y hF rfl rfl (by decide) _ (y_rem rfl rfl rfl (by decide) (mod4_int i)) (fun a hF => ?_)
        refine vc_y hF rfl rfl (by decide) _ (y_mul rfl rfl rfl (IntWalk.i64_in _ (by omega))) (fun a hF => ?_)
        refine vc_y hF rfl rfl (by decide) _ (y_sub rfl rfl rfl (IntWalk.i64_in _ (by omega))) (fun a hF => ?_)
        refine vc_y hF rfl rfl (by decide) _ (y_conv rfl Tryd.underlying3 Tryd.underlying130 rfl (show IntKind.u64.wrap (24 - 8 * ((i % 4 : Nat) : Int)) = 24 - 8 * ((i % 4 : Nat) : Int) by rw [IntKind.wrap_u64]; omega)) (fun a hF => ?_)
        refine vc_y hF rfl rfl (by decide) _ (y_shr rfl rfl rfl (by omega) rfl) (fun a hF => ?_)
        refine vc_y hF rfl rfl (by decide) _ (y_conv rfl Tryd.underlying131 Tryd.underlying5 rfl (out_int _ _ (Nat.mod_lt _ (by decide)))) (fun a hF => ?_)
        refine vc_y hF rfl rfl (by decide) _ (y_ixArr rfl Tryd.underlying23 sz5 rfl rfl i rfl hlt (ad1 _ _) (rfl : (none : Option Nat) = none)) (fun a hF => ?_)
        refine vc_op rfl (fun K hK => ws_store1 hF rfl rfl hAr rfl rfl 0 rfl (by rw [dc_length, ob_length st hsl i hi]; exact hlt) rfl sz5 (fun w17 hA17 => hK _ _ ?_))
        clear hK K
        replace hA17 : At w [(bo, 23, dc (ob st (i + 1))), (bs, 134, wc st), (bk, 132, wc nums), (bd, 23, Z0)] w17 := by rw [← ob_put st hsl i hlt]; exact hA17
        refine vc_nil ?_
        refine hK73 _ _ ?_; clear  hK73 K73
        refine wp_region_lit ?_
        refine vc_y hF rfl rfl (by decide) _ (y_move rfl rfl) (fun a hF => ?_)
        refine vc_y hF rfl rfl (by decide) _ (y_add rfl rfl rfl (IntWalk.i64_in _ (by omega))) (fun a hF => ?_)
        refine vc_y hF rfl rfl (by decide) _ (y_assign rfl rfl) (fun a hF => ?_)
        refine vc_nil ?_
        exact ⟨i + 1, by omega, by omega, hF.keep [24, 0, 2, 3, 4, 5, 23] rfl, hA17⟩
      · obtain rfl : i = 32 := by omega
        rw [hSha] at hAr
        apply wp_seq_k; intro K74 hK74
        apply wp_seq_k; intro K75 hK75
        refine wp_region_lit ?_
        refine vc_y hF rfl rfl (by decide) _ (y_move rfl rfl) (fun a hF => ?_)
        refine vc_y hF rfl rfl (by decide) _ (y_cmp rfl rfl rfl rfl (lss_f (by omega))) (fun a hF => ?_)
        refine vc_nil ?_
        refine hK75 _ _ ?_; clear  hK75 K75
        refine vc_false hF rfl ?_
        apply wp_exit
        refine hK69 _ _ ?_; clear hK74 K74 hK69 K69
        apply wp_seq_k; intro K76 hK76
        refine wp_region_lit ?_
        refine vc_y hF rfl rfl (by decide) _ (y_loadRow rfl hAr rfl 0 rfl rw36 (by rw [dc_length, sha_length]; decide) (by rw [List.drop_zero, List.take_of_length_le (by rw [dc_length, sha_length]; exact Nat.le_refl _)])) (fun a hF => ?_)
        refine vc_op rfl (fun K hK => ws_storeAll hF rfl rfl hAr rfl rfl 3 rfl (by rw [hZl, dc_length, sha_length]) (dc_one _) (by rw [size36, hZl]) (fun w18 hA18 => hK _ _ ?_))
        clear hK K
        replace hA18 : At w [(bo, 23, dc (sha l)), (bs, 134, wc st), (bk, 132, wc nums), (bd, 23, dc (sha l))] w18 := hA18
        refine vc_nil ?_
        refine hK76 _ _ ?_; clear  hK76 K76
        apply wp_ret
        refine vc_retc hF Tryd.results51 hA18 rfl 3 rfl (by rw [dc_length, sha_length]; exact row36) ?_
        refine ⟨rfl, hA18.clear (fun r hr => ?_)⟩
        simp only [List.mem_cons, List.not_mem_nil, or_false] at hr
        rcases hr with rfl | rfl | rfl | rfl <;> simp only <;> omega
end Go.Proofs.YtpomngkcfbnjoaaDoor
