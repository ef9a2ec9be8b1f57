/- The walks of octet's Reader. -/
import Derived.Test.YtepbmdlgdaedpaaGreatDoorOctetW
namespace Go.Proofs.YtepbmdlgdaedpaaGreatDoor
open Go.RowKit Go.Dk

theorem or_no3 : notRow Tryz.prog 3 = true := by kernel_rfl
theorem or_no57 : notRow Tryz.prog 40 = true := by kernel_rfl
theorem or_build (A : Option Addr) (n c : Nat) (w : World) : (Instr.build 152 #[(0, .slice A n c)]).run Tryz.prog w = .ok (.agg #[.slice A n c, .int .i64 0, .int .i64 0]) w := by kernel_rfl
/-- the number that bytes spell -/
def num (l : List UInt8) : Nat := l.foldl (fun n c => n * 256 + c.toNat) 0
theorem num_snoc (l : List UInt8) (c : UInt8) : num (l ++ [c]) = num l * 256 + c.toNat := by simp [num]
theorem num_take {l : List UInt8} {i : Nat} (h : i < l.length) : num (l.take (i + 1)) = num (l.take i) * 256 + (bAt l i).toNat := by
  rw [List.take_add_one, List.getElem?_eq_getElem h, Option.toList_some, num_snoc]
  simp [bAt, h]
theorem num_lt (l : List UInt8) : num l < 256 ^ l.length := by
  suffices h : ∀ n, n < 256 ^ n → num l < 256 ^ l.length by
    exact h 0 (by decide)
  intro _ _
  have key : ∀ (m : Nat) (l : List UInt8), l.length = m → num l < 256 ^ m := by
    intro m
    induction m with
    | zero => intro l hl; rw [List.length_eq_zero_iff.1 hl]; decide
    | succ m ih =>
      intro l hl
      obtain ⟨l', c, rfl⟩ : ∃ l' c, l = l' ++ [c] := ⟨l.dropLast, l.getLast (by intro e; rw [e] at hl; cases hl), (List.dropLast_concat_getLast _).symm⟩
      have h1 := ih l' (by simpa using hl)
      have h2 := c.toNat_lt
      rw [num_snoc, Nat.pow_succ]
      omega
  exact key _ l rfl
/-- a number at a place: what, the place behind it, whether -/
def ahOk (K : Nat) (l : List UInt8) (p : Nat) : Bool := decide (p + K ≤ l.length)
def ahN (K : Nat) (l : List UInt8) (p : Nat) : Nat := if p + K ≤ l.length then num ((l.drop p).take K) else 0
def ahTo (K : Nat) (l : List UInt8) (p : Nat) : Nat := if p + K ≤ l.length then p + K else p
def tkN (K : Nat) (l : List UInt8) (p y : Nat) : Nat := if y = 0 then ahN K l p else 0
def tkP (K : Nat) (l : List UInt8) (p y : Nat) : Nat := if y = 0 then ahTo K l p else p
def tkY (K : Nat) (l : List UInt8) (p y : Nat) : Nat := if y = 0 then (if p + K ≤ l.length then 0 else 8) else y
def flB (l : List UInt8) (p y : Nat) : Bool := y == 0 && ahN 1 l p == 1
def flOk (l : List UInt8) (p : Nat) : Bool := ahOk 1 l p && decide (ahN 1 l p ≤ 1)
def flP (l : List UInt8) (p y : Nat) : Nat := if y = 0 ∧ flOk l p = true then p + 1 else p
def flY (l : List UInt8) (p y : Nat) : Nat := if y = 0 then (if flOk l p = true then 0 else 8) else y
theorem or_shl (n : Nat) (h : n < 72057594037927936) : IntKind.u64.wrap ((n : Int) * 2 ^ min ((8 : Int)).toNat IntKind.u64.bits) = ((n * 256 : Nat) : Int) := by
  rw [show min ((8 : Int)).toNat IntKind.u64.bits = 8 by decide, IntKind.wrap_u64]; omega
theorem or_or (n : Nat) (c : UInt8) (h : n < 72057594037927936) : bits .or .u64 ((n * 256 : Nat) : Int) (c.toNat : Int) = ((n * 256 + c.toNat : Nat) : Int) := by
  have h2 := c.toNat_lt
  rw [u64_or_nat _ _ (by omega) (by omega)]
  congr 1
  have h3 := Nat.shiftLeft_add_eq_or_of_lt (a := n) (i := 8) (b := c.toNat) (by omega)
  rw [Nat.shiftLeft_eq] at h3
  exact h3.symm
theorem num_small {l : List UInt8} {i K : Nat} (h : i < K) (hK : K ≤ 8) : num (l.take i) < 72057594037927936 := by
  have h1 := num_lt (l.take i)
  have h2 : (l.take i).length ≤ 7 := by rw [List.length_take]; omega
  exact Nat.lt_of_lt_of_le h1 (Nat.le_trans (Nat.pow_le_pow_right (by decide) h2) (by decide))
theorem sz3_or : (Tryz.prog.info? 3).map (·.size) = some 1 := by kernel_rfl
theorem sz5_or : (Tryz.prog.info? 5).map (·.size) = some 1 := by kernel_rfl
theorem sz27_or : (Tryz.prog.info? 27).map (·.size) = some 1 := by kernel_rfl
theorem sz40_or : (Tryz.prog.info? 40).map (·.size) = some 1 := by kernel_rfl
theorem cl52_or : CallsTo Tryz.prog 52 := ⟨_, Tryz.func52, by kernel_rfl, by kernel_rfl⟩
theorem cl96_or : CallsTo Tryz.prog 96 := ⟨_, Tryz.func96, by kernel_rfl, by kernel_rfl⟩
theorem cl97_or : CallsTo Tryz.prog 97 := ⟨_, Tryz.func97, by kernel_rfl, by kernel_rfl⟩
theorem cl137_or : CallsTo Tryz.prog 137 := ⟨_, Tryz.func137, by kernel_rfl, by kernel_rfl⟩
theorem cl138_or : CallsTo Tryz.prog 138 := ⟨_, Tryz.func138, by kernel_rfl, by kernel_rfl⟩
theorem cl140_or : CallsTo Tryz.prog 140 := ⟨_, Tryz.func140, by kernel_rfl, by kernel_rfl⟩
theorem cl145_or : CallsTo Tryz.prog 145 := ⟨_, Tryz.func145, by kernel_rfl, by kernel_rfl⟩
theorem cl152_or : CallsTo Tryz.prog 152 := ⟨_, Tryz.func152, by kernel_rfl, by kernel_rfl⟩

set_option maxRecDepth 100000 in
set_option maxHeartbeats 1000000 in
theorem or_refuse (w0 w : World) (rb : Nat) (R : List Row) (A : Option Addr) (l : List UInt8) (c p y : Nat) (e : Nat) (z : Int) (hz : z = e) (hw : At w0 ((rb, 152, [.slice A l.length c, .int .i64 (p : Int), .int .i64 (y : Int)]) :: R) w) : Calls Tryz.prog 97 #[.pointer (some ⟨rb, 0, none⟩), .int .i64 z] w fun e' w' => e' = .returned (.tuple #[]) ∧ At w0 ((rb, 152, [.slice A l.length c, .int .i64 (p : Int), .int .i64 ((if y = 0 then e else y : Nat) : Int)]) :: R) w' := by
  subst hz
  by_cases hy : y = 0
  · subst hy
    rw [if_pos rfl]
    refine vc_enter Tryz.func97 rfl Tryz.ntmps97 (Nat.le_of_ble_eq_true rfl) (fun a hF => ?_)
    apply wp_seq_k; intro K1 hK1
    refine wp_region_lit ?_
    refine vc_y hF rfl rfl (by decide) _ (y_move rfl rfl) (fun a hF => ?_)
    refine vc_y hF rfl rfl (by decide) _ (y_nilCheck rfl rfl) (fun a hF => ?_)
    refine vc_y hF rfl rfl (by decide) _ (y_field rfl Tryz.underlying152 rfl sz40_or (by decide) rfl (rfl : (⟨_, 0 + _, none⟩ : Addr) = ⟨_, 2, none⟩)) (fun a hF => ?_)
    refine vc_y hF rfl rfl (by decide) _ (y_loadAt rfl hw rfl 0 rfl rfl or_no57) (fun a hF => ?_)
    refine vc_y hF rfl rfl (by decide) _ (y_cmp (c := true) rfl rfl rfl rfl rfl) (fun a hF => ?_)
    refine vc_nil ?_
    refine hK1 _ _ ?_; clear  hK1 K1
    refine vc_true hF rfl ?_
    refine wp_region_lit ?_
    refine vc_y hF rfl rfl (by decide) _ (y_move rfl rfl) (fun a hF => ?_)
    refine vc_y hF rfl rfl (by decide) _ (y_move rfl rfl) (fun a hF => ?_)
    refine vc_y hF rfl rfl (by decide) _ (y_nilCheck rfl rfl) (fun a hF => ?_)
    refine vc_y hF rfl rfl (by decide) _ (y_field rfl Tryz.underlying152 rfl sz40_or (by decide) rfl (rfl : (⟨_, 0 + _, none⟩ : Addr) = ⟨_, 2, none⟩)) (fun a hF => ?_)
    refine vc_op rfl (fun K hK => ws_store1 hF rfl rfl hw rfl rfl 0 rfl (by simp) rfl sz40_or (fun w2 hA2 => hK _ _ ?_))
    clear hK K
    replace hA2 : At w0 ((rb, 152, [.slice A l.length c, .int .i64 (p : Int), .int .i64 (e : Int)]) :: R) w2 := hA2
    refine vc_nil ?_
    refine vc_end0 hF Tryz.results97 ?_
    exact ⟨rfl, hA2⟩
  · rw [if_neg hy]
    refine vc_enter Tryz.func97 rfl Tryz.ntmps97 (Nat.le_of_ble_eq_true rfl) (fun a hF => ?_)
    apply wp_seq_k; intro K2 hK2
    refine wp_region_lit ?_
    refine vc_y hF rfl rfl (by decide) _ (y_move rfl rfl) (fun a hF => ?_)
    refine vc_y hF rfl rfl (by decide) _ (y_nilCheck rfl rfl) (fun a hF => ?_)
    refine vc_y hF rfl rfl (by decide) _ (y_field rfl Tryz.underlying152 rfl sz40_or (by decide) rfl (rfl : (⟨_, 0 + _, none⟩ : Addr) = ⟨_, 2, none⟩)) (fun a hF => ?_)
    refine vc_y hF rfl rfl (by decide) _ (y_loadAt rfl hw rfl 0 rfl rfl or_no57) (fun a hF => ?_)
    refine vc_y hF rfl rfl (by decide) _ (y_cmp (c := false) rfl rfl rfl rfl (eql_f (by omega))) (fun a hF => ?_)
    refine vc_nil ?_
    refine hK2 _ _ ?_; clear  hK2 K2
    refine vc_false hF rfl ?_
    apply wp_skip
    refine vc_end0 hF Tryz.results97 ?_
    exact ⟨rfl, hw⟩

set_option maxRecDepth 100000 in
set_option maxHeartbeats 1000000 in
theorem or_ahead_uint8 (w0 w : World) (rb : Nat) (R : List Row) (A : Option Addr) (l : List UInt8) (c p y : Nat) (q : Nat) (hB : ∀ (v : List Value) (x : World), At w0 ((rb, 152, v) :: R) x → Bts x A l) (hc : l.length ≤ c) (hw : At w0 ((rb, 152, [.slice A l.length c, .int .i64 (p : Int), .int .i64 (y : Int)]) :: R) w) (hl : l.length < 140737488354000) (hq : q ≤ l.length) : Calls Tryz.prog 96 #[.pointer (some ⟨rb, 0, none⟩), .int .i64 (q : Int)] w fun e w' => e = .returned (.tuple #[.int .u8 (ahN 1 l q : Int), .int .i64 (ahTo 1 l q : Int), .bool (ahOk 1 l q)]) ∧ w = w' := by
  refine vc_enter Tryz.func96 rfl Tryz.ntmps96 (Nat.le_of_ble_eq_true rfl) (fun a hF => ?_)
  apply wp_seq_k; intro K1 hK1
  refine wp_region_lit ?_
  refine vc_y hF rfl rfl (by decide) _ (y_assign rfl rfl) (fun a hF => ?_)
  refine vc_y hF rfl rfl (by decide) _ (y_assign rfl rfl) (fun a hF => ?_)
  refine vc_y hF rfl rfl (by decide) _ (y_assign rfl rfl) (fun a hF => ?_)
  refine vc_nil ?_
  refine hK1 _ _ ?_; clear  hK1 K1
  apply wp_seq_k; intro K2 hK2
  refine wp_region_lit ?_
  refine vc_op rfl (fun K hK => ws_call hF rfl (by decide) cl137_or rfl rfl ?_)
  with_reducible refine (ow_width_uint8 w).mono ?_
  rintro e' w' ⟨rfl, rfl⟩
  refine ⟨_, rfl, fun a hF => hK _ _ ?_⟩; clear hK K
  refine vc_y hF rfl rfl (by decide) _ (y_assign rfl rfl) (fun a hF => ?_)
  refine vc_nil ?_
  refine hK2 _ _ ?_; clear  hK2 K2
  apply wp_seq_k; intro K3 hK3
  apply wp_seq_k; intro K4 hK4
  refine wp_region_lit ?_
  refine vc_y hF rfl rfl (by decide) _ (y_move rfl rfl) (fun a hF => ?_)
  refine vc_y hF rfl rfl (by decide) _ (y_move rfl rfl) (fun a hF => ?_)
  refine vc_y hF rfl rfl (by decide) _ (y_nilCheck rfl rfl) (fun a hF => ?_)
  refine vc_y hF rfl rfl (by decide) _ (y_field rfl Tryz.underlying152 rfl sz27_or (by decide) rfl (rfl : (⟨_, 0 + _, none⟩ : Addr) = ⟨_, 0, none⟩)) (fun a hF => ?_)
  refine vc_y hF rfl rfl (by decide) _ (y_loadAt rfl hw rfl 0 rfl rfl ow_no24) (fun a hF => ?_)
  refine vc_y hF rfl rfl (by decide) _ (y_lenSl rfl Tryz.underlying27 rfl rfl) (fun a hF => ?_)
  refine vc_y hF rfl rfl (by decide) _ (y_move rfl rfl) (fun a hF => ?_)
  refine vc_y hF rfl rfl (by decide) _ (y_sub rfl rfl rfl (IntWalk.i64_in _ (by omega))) (fun a hF => ?_)
  refine vc_y hF rfl rfl (by decide) _ (y_cmp rfl rfl rfl rfl rfl) (fun a hF => ?_)
  refine vc_nil ?_
  refine hK4 _ _ ?_; clear  hK4 K4
  by_cases hgt : ¬(q + 1 ≤ l.length)
  · refine vc_trueB hF rfl (gtr_t (by omega)) ?_
    apply wp_seq_k; intro K5 hK5
    refine wp_region_lit ?_
    refine vc_y hF rfl rfl (by decide) _ (y_move rfl rfl) (fun a hF => ?_)
    refine vc_y hF rfl rfl (by decide) _ (y_assign rfl rfl) (fun a hF => ?_)
    refine vc_y hF rfl rfl (by decide) _ (y_assign rfl rfl) (fun a hF => ?_)
    refine vc_y hF rfl rfl (by decide) _ (y_assign rfl rfl) (fun a hF => ?_)
    refine vc_nil ?_
    refine hK5 _ _ ?_; clear  hK5 K5
    apply wp_ret
    simp only [Exit.then]
    refine vc_ret3 hF Tryz.results96 rfl rfl rfl ?_
    exact ⟨by rw [ahN, ahTo, ahOk, if_neg hgt, if_neg hgt, decide_eq_false hgt]; rfl, rfl⟩
  · refine vc_falseB hF rfl (gtr_f (by omega)) ?_
    have hml : ((l.drop q).take 1).length = 1 := by rw [List.length_take, List.length_drop]; omega
    have hnum := num_lt ((l.drop q).take 1)
    rw [hml] at hnum
    obtain ⟨b, o, hAd, _, hcell⟩ := ((hB _ _ hw).drop q hc).take 1 (by intro e; rw [e] at hml; cases hml)
    rw [hml] at hcell
    apply wp_skip
    refine hK3 _ _ ?_; clear  hK3 K3
    apply wp_seq_k; intro K6 hK6
    refine wp_region_lit ?_
    refine vc_y hF rfl rfl (by decide) _ (y_assign rfl rfl) (fun a hF => ?_)
    refine vc_nil ?_
    refine hK6 _ _ ?_; clear  hK6 K6
    apply wp_seq_k; intro K7 hK7
    apply wp_seq_k; intro K8 hK8
    refine wp_region_lit ?_
    refine vc_y hF rfl rfl (by decide) _ (y_move rfl rfl) (fun a hF => ?_)
    refine vc_y hF rfl rfl (by decide) _ (y_nilCheck rfl rfl) (fun a hF => ?_)
    refine vc_y hF rfl rfl (by decide) _ (y_field rfl Tryz.underlying152 rfl sz27_or (by decide) rfl (rfl : (⟨_, 0 + _, none⟩ : Addr) = ⟨_, 0, none⟩)) (fun a hF => ?_)
    refine vc_y hF rfl rfl (by decide) _ (y_loadAt rfl hw rfl 0 rfl rfl ow_no24) (fun a hF => ?_)
    refine vc_y hF rfl rfl (by decide) _ (y_move rfl rfl) (fun a hF => ?_)
    refine vc_y hF rfl rfl (by decide) _ (y_move rfl rfl) (fun a hF => ?_)
    refine vc_y hF rfl rfl (by decide) _ (y_move rfl rfl) (fun a hF => ?_)
    refine vc_y hF rfl rfl (by decide) _ (y_add rfl rfl rfl (show IntKind.i64.wrap ((q : Int) + 1) = ((q + 1 : Nat) : Int) by rw [IntWalk.i64_in _ (by omega)]; omega)) (fun a hF => ?_)
    refine vc_y hF rfl rfl (by decide) _ (y_slice rfl Tryz.underlying27 ow_size5 rfl (.some rfl rfl) (.some rfl rfl) (Nat.le_add_right _ _) (by omega) (show Value.slice (sub A q c 1) (q + 1 - q) (c - q) = .slice (some ⟨b, o, none⟩) 1 (c - q) by rw [hAd, Nat.add_sub_cancel_left])) (fun a hF => ?_)
    refine vc_y hF rfl rfl (by decide) _ (y_lenSl rfl Tryz.underlying27 rfl rfl) (fun a hF => ?_)
    refine vc_y hF rfl rfl (by decide) _ (y_move rfl rfl) (fun a hF => ?_)
    refine vc_nil ?_
    refine hK8 _ _ ?_; clear  hK8 K8
    apply wp_block
    refine vc_loop (G := Nat) (fun i a x => i ≤ 1 ∧ Fr 47 [(32, .int .i64 (i : Int)), (30, .slice (some ⟨b, o, none⟩) 1 (c - q)), (31, .int .i64 1), (8, .int .u64 (num (((l.drop q).take 1).take i) : Int)), (0, .pointer (some ⟨rb, 0, none⟩)), (1, .int .i64 (q : Int)), (7, .int .i64 1)] a ∧ x = w) (fun i => 1 - i) 0 ⟨Nat.zero_le _, hF.keep [32, 30, 31, 8, 0, 1, 7] rfl, rfl⟩ ?_
    clear hF
    rintro i a wr ⟨hi, hF, hx⟩
    subst hx
    by_cases hik : i < 1
    · apply wp_seq_k; intro K9 hK9
      refine wp_region_lit ?_
      refine vc_y hF rfl rfl (by decide) _ (y_cmp rfl rfl rfl rfl rfl) (fun a hF => ?_)
      refine vc_nil ?_
      refine hK9 _ _ ?_; clear  hK9 K9
      apply wp_seq_k; intro K10 hK10
      refine vc_trueB hF rfl (lss_t (by omega)) ?_
      apply wp_skip
      refine hK10 _ _ ?_; clear  hK10 K10
      apply wp_seq_k; intro K11 hK11
      apply wp_block
      apply wp_seq_k; intro K12 hK12
      refine wp_region_lit ?_
      refine vc_y hF rfl rfl (by decide) _ (y_ixSl rfl Tryz.underlying27 sz5_or rfl rfl i rfl (by omega) (ad2 _ _ _)) (fun a hF => ?_)
      refine vc_y hF rfl rfl (by decide) _ (y_load1 rfl rfl (hcell i (by omega)) (by kernel_rfl)) (fun a hF => ?_)
      refine vc_y hF rfl rfl (by decide) _ (y_assign rfl rfl) (fun a hF => ?_)
      refine vc_nil ?_
      refine hK12 _ _ ?_; clear  hK12 K12
      refine wp_region_lit ?_
      refine vc_y hF rfl rfl (by decide) _ (y_move rfl rfl) (fun a hF => ?_)
      refine vc_y hF rfl rfl (by decide) _ (y_shl rfl rfl rfl (by decide) (or_shl _ (num_small hik (by decide)))) (fun a hF => ?_)
      refine vc_y hF rfl rfl (by decide) _ (y_move rfl rfl) (fun a hF => ?_)
      refine vc_y hF rfl rfl (by decide) _ (y_conv rfl Tryz.underlying5 Tryz.underlying135 rfl (show IntKind.u64.wrap ((bAt ((l.drop q).take 1) i).toNat : Int) = ((bAt ((l.drop q).take 1) i).toNat : Int) by have := (bAt ((l.drop q).take 1) i).toNat_lt; rw [IntKind.wrap_u64]; omega)) (fun a hF => ?_)
      refine vc_y hF rfl rfl (by decide) _ (y_or rfl rfl rfl (or_or _ _ (num_small hik (by decide)))) (fun a hF => ?_)
      refine vc_y hF rfl rfl (by decide) _ (y_assign rfl rfl) (fun a hF => ?_)
      refine vc_nil ?_
      refine hK11 _ _ ?_; clear  hK11 K11
      refine wp_region_lit ?_
      refine vc_y hF rfl rfl (by decide) _ (y_add rfl rfl rfl (IntWalk.i64_in _ (by omega))) (fun a hF => ?_)
      refine vc_y hF rfl rfl (by decide) _ (y_move rfl rfl) (fun a hF => ?_)
      refine vc_nil ?_
      rw [← num_take (by omega)] at hF
      exact ⟨i + 1, by omega, by omega, hF.keep [32, 30, 31, 8, 0, 1, 7] rfl, rfl⟩
    · obtain rfl : i = 1 := by omega
      rw [List.take_of_length_le (Nat.le_of_eq hml)] at hF
      apply wp_seq_k; intro K13 hK13
      refine wp_region_lit ?_
      refine vc_y hF rfl rfl (by decide) _ (y_cmp rfl rfl rfl rfl rfl) (fun a hF => ?_)
      refine vc_nil ?_
      refine hK13 _ _ ?_; clear  hK13 K13
      apply wp_seq_k; intro K14 hK14
      refine vc_falseB hF rfl (lss_f (by omega)) ?_
      apply wp_exit
      refine hK7 _ _ ?_; clear hK14 K14 hK7 K7
      apply wp_seq_k; intro K15 hK15
      refine wp_region_lit ?_
      refine vc_y hF rfl rfl (by decide) _ (y_move rfl rfl) (fun a hF => ?_)
      refine vc_y hF rfl rfl (by decide) _ (y_conv rfl Tryz.underlying135 Tryz.underlying5 rfl (show IntKind.u8.wrap (num ((l.drop q).take 1) : Int) = (num ((l.drop q).take 1) : Int) by rw [IntKind.wrap_u8]; omega)) (fun a hF => ?_)
      refine vc_y hF rfl rfl (by decide) _ (y_move rfl rfl) (fun a hF => ?_)
      refine vc_y hF rfl rfl (by decide) _ (y_move rfl rfl) (fun a hF => ?_)
      refine vc_y hF rfl rfl (by decide) _ (y_add rfl rfl rfl (show IntKind.i64.wrap ((q : Int) + 1) = ((q + 1 : Nat) : Int) by rw [IntWalk.i64_in _ (by omega)]; omega)) (fun a hF => ?_)
      refine vc_y hF rfl rfl (by decide) _ (y_assign rfl rfl) (fun a hF => ?_)
      refine vc_y hF rfl rfl (by decide) _ (y_assign rfl rfl) (fun a hF => ?_)
      refine vc_y hF rfl rfl (by decide) _ (y_assign rfl rfl) (fun a hF => ?_)
      refine vc_nil ?_
      refine hK15 _ _ ?_; clear  hK15 K15
      apply wp_ret
      refine vc_ret3 hF Tryz.results96 rfl rfl rfl ?_
      have hle : q + 1 ≤ l.length := by omega
      exact ⟨by rw [ahN, ahTo, ahOk, if_pos hle, if_pos hle, decide_eq_true hle], rfl⟩

set_option maxRecDepth 100000 in
set_option maxHeartbeats 1000000 in
theorem or_take_uint8 (w0 w : World) (rb : Nat) (R : List Row) (A : Option Addr) (l : List UInt8) (c p y : Nat) (hB : ∀ (v : List Value) (x : World), At w0 ((rb, 152, v) :: R) x → Bts x A l) (hc : l.length ≤ c) (hw : At w0 ((rb, 152, [.slice A l.length c, .int .i64 (p : Int), .int .i64 (y : Int)]) :: R) w) (hp : p ≤ l.length) (hl : l.length < 140737488354000) : Calls Tryz.prog 32 #[.pointer (some ⟨rb, 0, none⟩)] w fun e w' => e = .returned (.int .u8 (tkN 1 l p y : Int)) ∧ At w0 ((rb, 152, [.slice A l.length c, .int .i64 ((tkP 1 l p y : Nat) : Int), .int .i64 ((tkY 1 l p y : Nat) : Int)]) :: R) w' := by
  by_cases hy : y = 0
  · subst hy
    by_cases hle : p + 1 ≤ l.length
    · rw [show tkN 1 l p 0 = ahN 1 l p from rfl, show tkP 1 l p 0 = p + 1 from if_pos hle, show tkY 1 l p 0 = 0 from if_pos hle]
      refine vc_enter Tryz.func32 rfl Tryz.ntmps32 (Nat.le_of_ble_eq_true rfl) (fun a hF => ?_)
      apply wp_seq_k; intro K1 hK1
      refine wp_region_lit ?_
      refine vc_y hF rfl rfl (by decide) _ (y_assign rfl rfl) (fun a hF => ?_)
      refine vc_nil ?_
      refine hK1 _ _ ?_; clear  hK1 K1
      apply wp_seq_k; intro K2 hK2
      apply wp_seq_k; intro K3 hK3
      refine wp_region_lit ?_
      refine vc_y hF rfl rfl (by decide) _ (y_move rfl rfl) (fun a hF => ?_)
      refine vc_y hF rfl rfl (by decide) _ (y_eqNil rfl (by kernel_rfl) rfl rfl) (fun a hF => ?_)
      refine vc_y hF rfl rfl (by decide) _ (y_move rfl rfl) (fun a hF => ?_)
      refine vc_yg hF rfl rfl rfl rfl rfl (by decide) _ (y_move rfl rfl) (fun a hF => ?_)
      refine vc_yg hF rfl rfl rfl rfl rfl (by decide) _ (y_nilCheck rfl rfl) (fun a hF => ?_)
      refine vc_yg hF rfl rfl rfl rfl rfl (by decide) _ (y_field rfl Tryz.underlying152 rfl sz40_or (by decide) rfl (rfl : (⟨_, 0 + _, none⟩ : Addr) = ⟨_, 2, none⟩)) (fun a hF => ?_)
      refine vc_yg hF rfl rfl rfl rfl rfl (by decide) _ (y_loadAt rfl hw rfl 0 rfl rfl or_no57) (fun a hF => ?_)
      refine vc_yg hF rfl rfl rfl rfl rfl (by decide) _ (y_cmp (c := false) rfl rfl rfl rfl (neq_f rfl)) (fun a hF => ?_)
      refine vc_y hF rfl rfl (by decide) _ (y_pick rfl rfl rfl) (fun a hF => ?_)
      refine vc_nil ?_
      refine hK3 _ _ ?_; clear  hK3 K3
      refine vc_false hF rfl ?_
      apply wp_skip
      refine hK2 _ _ ?_; clear  hK2 K2
      apply wp_seq_k; intro K4 hK4
      refine wp_region_lit ?_
      refine vc_y hF rfl rfl (by decide) _ (y_move rfl rfl) (fun a hF => ?_)
      refine vc_y hF rfl rfl (by decide) _ (y_move rfl rfl) (fun a hF => ?_)
      refine vc_y hF rfl rfl (by decide) _ (y_nilCheck rfl rfl) (fun a hF => ?_)
      refine vc_y hF rfl rfl (by decide) _ (y_field rfl Tryz.underlying152 rfl sz3_or (by decide) rfl (rfl : (⟨_, 0 + _, none⟩ : Addr) = ⟨_, 1, none⟩)) (fun a hF => ?_)
      refine vc_y hF rfl rfl (by decide) _ (y_loadAt rfl hw rfl 0 rfl rfl or_no3) (fun a hF => ?_)
      refine vc_op rfl (fun K hK => ws_call hF rfl (by decide) cl96_or rfl rfl ?_)
      with_reducible refine (or_ahead_uint8 w0 w rb R A l c p 0 p hB hc hw hl hp).mono ?_
      rintro e' w' ⟨rfl, rfl⟩
      refine ⟨_, rfl, fun a hF => hK _ _ ?_⟩; clear hK K
      refine vc_y hF rfl rfl (by decide) _ (y_move rfl rfl) (fun a hF => ?_)
      refine vc_y hF rfl rfl (by decide) _ (y_extract rfl rfl rfl) (fun a hF => ?_)
      refine vc_y hF rfl rfl (by decide) _ (y_extract rfl rfl rfl) (fun a hF => ?_)
      refine vc_y hF rfl rfl (by decide) _ (y_extract rfl rfl rfl) (fun a hF => ?_)
      refine vc_y hF rfl rfl (by decide) _ (y_assign rfl rfl) (fun a hF => ?_)
      refine vc_y hF rfl rfl (by decide) _ (y_assign rfl rfl) (fun a hF => ?_)
      refine vc_y hF rfl rfl (by decide) _ (y_assign rfl rfl) (fun a hF => ?_)
      refine vc_nil ?_
      refine hK4 _ _ ?_; clear  hK4 K4
      apply wp_seq_k; intro K5 hK5
      apply wp_seq_k; intro K6 hK6
      refine wp_region_lit ?_
      refine vc_y hF rfl rfl (by decide) _ (y_move rfl rfl) (fun a hF => ?_)
      refine vc_y hF rfl rfl (by decide) _ (y_not rfl rfl rfl) (fun a hF => ?_)
      refine vc_nil ?_
      refine hK6 _ _ ?_; clear  hK6 K6
      refine vc_falseB hF rfl (by rw [ahOk, decide_eq_true hle]; rfl) ?_
      have hto : ahTo 1 l p = p + 1 := if_pos hle
      rw [hto] at hF
      apply wp_skip
      refine hK5 _ _ ?_; clear  hK5 K5
      apply wp_seq_k; intro K7 hK7
      refine wp_region_lit ?_
      refine vc_y hF rfl rfl (by decide) _ (y_move rfl rfl) (fun a hF => ?_)
      refine vc_y hF rfl rfl (by decide) _ (y_move rfl rfl) (fun a hF => ?_)
      refine vc_y hF rfl rfl (by decide) _ (y_nilCheck rfl rfl) (fun a hF => ?_)
      refine vc_y hF rfl rfl (by decide) _ (y_field rfl Tryz.underlying152 rfl sz3_or (by decide) rfl (rfl : (⟨_, 0 + _, none⟩ : Addr) = ⟨_, 1, none⟩)) (fun a hF => ?_)
      refine vc_op rfl (fun K hK => ws_store1 hF rfl rfl hw rfl rfl 0 rfl (by simp) rfl sz3_or (fun w2 hA2 => hK _ _ ?_))
      clear hK K
      replace hA2 : At w0 ((rb, 152, [.slice A l.length c, .int .i64 ((p + 1 : Nat) : Int), .int .i64 (0 : Int)]) :: R) w2 := hA2
      refine vc_nil ?_
      refine hK7 _ _ ?_; clear  hK7 K7
      apply wp_seq_k; intro K8 hK8
      refine wp_region_lit ?_
      refine vc_y hF rfl rfl (by decide) _ (y_move rfl rfl) (fun a hF => ?_)
      refine vc_y hF rfl rfl (by decide) _ (y_assign rfl rfl) (fun a hF => ?_)
      refine vc_nil ?_
      refine hK8 _ _ ?_; clear  hK8 K8
      apply wp_ret
      refine vc_ret1 hF Tryz.results32 rfl ?_
      exact ⟨rfl, hA2⟩
    · rw [show tkN 1 l p 0 = 0 from if_neg hle, show tkP 1 l p 0 = p from if_neg hle, show tkY 1 l p 0 = 8 from if_neg hle]
      refine vc_enter Tryz.func32 rfl Tryz.ntmps32 (Nat.le_of_ble_eq_true rfl) (fun a hF => ?_)
      apply wp_seq_k; intro K9 hK9
      refine wp_region_lit ?_
      refine vc_y hF rfl rfl (by decide) _ (y_assign rfl rfl) (fun a hF => ?_)
      refine vc_nil ?_
      refine hK9 _ _ ?_; clear  hK9 K9
      apply wp_seq_k; intro K10 hK10
      apply wp_seq_k; intro K11 hK11
      refine wp_region_lit ?_
      refine vc_y hF rfl rfl (by decide) _ (y_move rfl rfl) (fun a hF => ?_)
      refine vc_y hF rfl rfl (by decide) _ (y_eqNil rfl (by kernel_rfl) rfl rfl) (fun a hF => ?_)
      refine vc_y hF rfl rfl (by decide) _ (y_move rfl rfl) (fun a hF => ?_)
      refine vc_yg hF rfl rfl rfl rfl rfl (by decide) _ (y_move rfl rfl) (fun a hF => ?_)
      refine vc_yg hF rfl rfl rfl rfl rfl (by decide) _ (y_nilCheck rfl rfl) (fun a hF => ?_)
      refine vc_yg hF rfl rfl rfl rfl rfl (by decide) _ (y_field rfl Tryz.underlying152 rfl sz40_or (by decide) rfl (rfl : (⟨_, 0 + _, none⟩ : Addr) = ⟨_, 2, none⟩)) (fun a hF => ?_)
      refine vc_yg hF rfl rfl rfl rfl rfl (by decide) _ (y_loadAt rfl hw rfl 0 rfl rfl or_no57) (fun a hF => ?_)
      refine vc_yg hF rfl rfl rfl rfl rfl (by decide) _ (y_cmp (c := false) rfl rfl rfl rfl (neq_f rfl)) (fun a hF => ?_)
      refine vc_y hF rfl rfl (by decide) _ (y_pick rfl rfl rfl) (fun a hF => ?_)
      refine vc_nil ?_
      refine hK11 _ _ ?_; clear  hK11 K11
      refine vc_false hF rfl ?_
      apply wp_skip
      refine hK10 _ _ ?_; clear  hK10 K10
      apply wp_seq_k; intro K12 hK12
      refine wp_region_lit ?_
      refine vc_y hF rfl rfl (by decide) _ (y_move rfl rfl) (fun a hF => ?_)
      refine vc_y hF rfl rfl (by decide) _ (y_move rfl rfl) (fun a hF => ?_)
      refine vc_y hF rfl rfl (by decide) _ (y_nilCheck rfl rfl) (fun a hF => ?_)
      refine vc_y hF rfl rfl (by decide) _ (y_field rfl Tryz.underlying152 rfl sz3_or (by decide) rfl (rfl : (⟨_, 0 + _, none⟩ : Addr) = ⟨_, 1, none⟩)) (fun a hF => ?_)
      refine vc_y hF rfl rfl (by decide) _ (y_loadAt rfl hw rfl 0 rfl rfl or_no3) (fun a hF => ?_)
      refine vc_op rfl (fun K hK => ws_call hF rfl (by decide) cl96_or rfl rfl ?_)
      with_reducible refine (or_ahead_uint8 w0 w rb R A l c p 0 p hB hc hw hl hp).mono ?_
      rintro e' w' ⟨rfl, rfl⟩
      refine ⟨_, rfl, fun a hF => hK _ _ ?_⟩; clear hK K
      refine vc_y hF rfl rfl (by decide) _ (y_move rfl rfl) (fun a hF => ?_)
      refine vc_y hF rfl rfl (by decide) _ (y_extract rfl rfl rfl) (fun a hF => ?_)
      refine vc_y hF rfl rfl (by decide) _ (y_extract rfl rfl rfl) (fun a hF => ?_)
      refine vc_y hF rfl rfl (by decide) _ (y_extract rfl rfl rfl) (fun a hF => ?_)
      refine vc_y hF rfl rfl (by decide) _ (y_assign rfl rfl) (fun a hF => ?_)
      refine vc_y hF rfl rfl (by decide) _ (y_assign rfl rfl) (fun a hF => ?_)
      refine vc_y hF rfl rfl (by decide) _ (y_assign rfl rfl) (fun a hF => ?_)
      refine vc_nil ?_
      refine hK12 _ _ ?_; clear  hK12 K12
      apply wp_seq_k; intro K13 hK13
      apply wp_seq_k; intro K14 hK14
      refine wp_region_lit ?_
      refine vc_y hF rfl rfl (by decide) _ (y_move rfl rfl) (fun a hF => ?_)
      refine vc_y hF rfl rfl (by decide) _ (y_not rfl rfl rfl) (fun a hF => ?_)
      refine vc_nil ?_
      refine hK14 _ _ ?_; clear  hK14 K14
      refine vc_trueB hF rfl (by rw [ahOk, decide_eq_false hle]; rfl) ?_
      apply wp_seq_k; intro K15 hK15
      refine wp_region_lit ?_
      refine vc_y hF rfl rfl (by decide) _ (y_move rfl rfl) (fun a hF => ?_)
      refine vc_op rfl (fun K hK => ws_call hF rfl (by decide) cl97_or rfl rfl ?_)
      with_reducible refine (or_refuse w0 w rb R A l c p 0 8 8 rfl hw).mono ?_
      rintro e' w2 ⟨rfl, hA2⟩
      refine ⟨_, rfl, fun a hF => hK _ _ ?_⟩; clear hK K
      rw [if_pos rfl] at hA2
      refine vc_nil ?_
      refine hK15 _ _ ?_; clear  hK15 K15
      apply wp_seq_k; intro K16 hK16
      refine wp_region_lit ?_
      refine vc_y hF rfl rfl (by decide) _ (y_assign rfl rfl) (fun a hF => ?_)
      refine vc_nil ?_
      refine hK16 _ _ ?_; clear  hK16 K16
      apply wp_ret
      simp only [Exit.then]
      refine vc_ret1 hF Tryz.results32 rfl ?_
      exact ⟨rfl, hA2⟩
  · rw [show tkN 1 l p y = 0 from if_neg hy, show tkP 1 l p y = p from if_neg hy, show tkY 1 l p y = y from if_neg hy]
    refine vc_enter Tryz.func32 rfl Tryz.ntmps32 (Nat.le_of_ble_eq_true rfl) (fun a hF => ?_)
    apply wp_seq_k; intro K17 hK17
    refine wp_region_lit ?_
    refine vc_y hF rfl rfl (by decide) _ (y_assign rfl rfl) (fun a hF => ?_)
    refine vc_nil ?_
    refine hK17 _ _ ?_; clear  hK17 K17
    apply wp_seq_k; intro K18 hK18
    apply wp_seq_k; intro K19 hK19
    refine wp_region_lit ?_
    refine vc_y hF rfl rfl (by decide) _ (y_move rfl rfl) (fun a hF => ?_)
    refine vc_y hF rfl rfl (by decide) _ (y_eqNil rfl (by kernel_rfl) rfl rfl) (fun a hF => ?_)
    refine vc_y hF rfl rfl (by decide) _ (y_move rfl rfl) (fun a hF => ?_)
    refine vc_yg hF rfl rfl rfl rfl rfl (by decide) _ (y_move rfl rfl) (fun a hF => ?_)
    refine vc_yg hF rfl rfl rfl rfl rfl (by decide) _ (y_nilCheck rfl rfl) (fun a hF => ?_)
    refine vc_yg hF rfl rfl rfl rfl rfl (by decide) _ (y_field rfl Tryz.underlying152 rfl sz40_or (by decide) rfl (rfl : (⟨_, 0 + _, none⟩ : Addr) = ⟨_, 2, none⟩)) (fun a hF => ?_)
    refine vc_yg hF rfl rfl rfl rfl rfl (by decide) _ (y_loadAt rfl hw rfl 0 rfl rfl or_no57) (fun a hF => ?_)
    refine vc_yg hF rfl rfl rfl rfl rfl (by decide) _ (y_cmp (c := true) rfl rfl rfl rfl (neq_t (by omega))) (fun a hF => ?_)
    refine vc_y hF rfl rfl (by decide) _ (y_pick rfl rfl rfl) (fun a hF => ?_)
    refine vc_nil ?_
    refine hK19 _ _ ?_; clear  hK19 K19
    refine vc_true hF rfl ?_
    apply wp_seq_k; intro K20 hK20
    refine wp_region_lit ?_
    refine vc_y hF rfl rfl (by decide) _ (y_assign rfl rfl) (fun a hF => ?_)
    refine vc_nil ?_
    refine hK20 _ _ ?_; clear  hK20 K20
    apply wp_ret
    simp only [Exit.then]
    refine vc_ret1 hF Tryz.results32 rfl ?_
    exact ⟨rfl, hw⟩

set_option maxRecDepth 100000 in
set_option maxHeartbeats 1000000 in
theorem or_ahead_uint16 (w0 w : World) (rb : Nat) (R : List Row) (A : Option Addr) (l : List UInt8) (c p y : Nat) (q : Nat) (hB : ∀ (v : List Value) (x : World), At w0 ((rb, 152, v) :: R) x → Bts x A l) (hc : l.length ≤ c) (hw : At w0 ((rb, 152, [.slice A l.length c, .int .i64 (p : Int), .int .i64 (y : Int)]) :: R) w) (hl : l.length < 140737488354000) (hq : q ≤ l.length) : Calls Tryz.prog 98 #[.pointer (some ⟨rb, 0, none⟩), .int .i64 (q : Int)] w fun e w' => e = .returned (.tuple #[.int .u16 (ahN 2 l q : Int), .int .i64 (ahTo 2 l q : Int), .bool (ahOk 2 l q)]) ∧ w = w' := by
  refine vc_enter Tryz.func98 rfl Tryz.ntmps98 (Nat.le_of_ble_eq_true rfl) (fun a hF => ?_)
  apply wp_seq_k; intro K1 hK1
  refine wp_region_lit ?_
  refine vc_y hF rfl rfl (by decide) _ (y_assign rfl rfl) (fun a hF => ?_)
  refine vc_y hF rfl rfl (by decide) _ (y_assign rfl rfl) (fun a hF => ?_)
  refine vc_y hF rfl rfl (by decide) _ (y_assign rfl rfl) (fun a hF => ?_)
  refine vc_nil ?_
  refine hK1 _ _ ?_; clear  hK1 K1
  apply wp_seq_k; intro K2 hK2
  refine wp_region_lit ?_
  refine vc_op rfl (fun K hK => ws_call hF rfl (by decide) cl145_or rfl rfl ?_)
  with_reducible refine (ow_width_uint16 w).mono ?_
  rintro e' w' ⟨rfl, rfl⟩
  refine ⟨_, rfl, fun a hF => hK _ _ ?_⟩; clear hK K
  refine vc_y hF rfl rfl (by decide) _ (y_assign rfl rfl) (fun a hF => ?_)
  refine vc_nil ?_
  refine hK2 _ _ ?_; clear  hK2 K2
  apply wp_seq_k; intro K3 hK3
  apply wp_seq_k; intro K4 hK4
  refine wp_region_lit ?_
  refine vc_y hF rfl rfl (by decide) _ (y_move rfl rfl) (fun a hF => ?_)
  refine vc_y hF rfl rfl (by decide) _ (y_move rfl rfl) (fun a hF => ?_)
  refine vc_y hF rfl rfl (by decide) _ (y_nilCheck rfl rfl) (fun a hF => ?_)
  refine vc_y hF rfl rfl (by decide) _ (y_field rfl Tryz.underlying152 rfl sz27_or (by decide) rfl (rfl : (⟨_, 0 + _, none⟩ : Addr) = ⟨_, 0, none⟩)) (fun a hF => ?_)
  refine vc_y hF rfl rfl (by decide) _ (y_loadAt rfl hw rfl 0 rfl rfl ow_no24) (fun a hF => ?_)
  refine vc_y hF rfl rfl (by decide) _ (y_lenSl rfl Tryz.underlying27 rfl rfl) (fun a hF => ?_)
  refine vc_y hF rfl rfl (by decide) _ (y_move rfl rfl) (fun a hF => ?_)
  refine vc_y hF rfl rfl (by decide) _ (y_sub rfl rfl rfl (IntWalk.i64_in _ (by omega))) (fun a hF => ?_)
  refine vc_y hF rfl rfl (by decide) _ (y_cmp rfl rfl rfl rfl rfl) (fun a hF => ?_)
  refine vc_nil ?_
  refine hK4 _ _ ?_; clear  hK4 K4
  by_cases hgt : ¬(q + 2 ≤ l.length)
  · refine vc_trueB hF rfl (gtr_t (by omega)) ?_
    apply wp_seq_k; intro K5 hK5
    refine wp_region_lit ?_
    refine vc_y hF rfl rfl (by decide) _ (y_move rfl rfl) (fun a hF => ?_)
    refine vc_y hF rfl rfl (by decide) _ (y_assign rfl rfl) (fun a hF => ?_)
    refine vc_y hF rfl rfl (by decide) _ (y_assign rfl rfl) (fun a hF => ?_)
    refine vc_y hF rfl rfl (by decide) _ (y_assign rfl rfl) (fun a hF => ?_)
    refine vc_nil ?_
    refine hK5 _ _ ?_; clear  hK5 K5
    apply wp_ret
    simp only [Exit.then]
    refine vc_ret3 hF Tryz.results98 rfl rfl rfl ?_
    exact ⟨by rw [ahN, ahTo, ahOk, if_neg hgt, if_neg hgt, decide_eq_false hgt]; rfl, rfl⟩
  · refine vc_falseB hF rfl (gtr_f (by omega)) ?_
    have hml : ((l.drop q).take 2).length = 2 := by rw [List.length_take, List.length_drop]; omega
    have hnum := num_lt ((l.drop q).take 2)
    rw [hml] at hnum
    obtain ⟨b, o, hAd, _, hcell⟩ := ((hB _ _ hw).drop q hc).take 2 (by intro e; rw [e] at hml; cases hml)
    rw [hml] at hcell
    apply wp_skip
    refine hK3 _ _ ?_; clear  hK3 K3
    apply wp_seq_k; intro K6 hK6
    refine wp_region_lit ?_
    refine vc_y hF rfl rfl (by decide) _ (y_assign rfl rfl) (fun a hF => ?_)
    refine vc_nil ?_
    refine hK6 _ _ ?_; clear  hK6 K6
    apply wp_seq_k; intro K7 hK7
    apply wp_seq_k; intro K8 hK8
    refine wp_region_lit ?_
    refine vc_y hF rfl rfl (by decide) _ (y_move rfl rfl) (fun a hF => ?_)
    refine vc_y hF rfl rfl (by decide) _ (y_nilCheck rfl rfl) (fun a hF => ?_)
    refine vc_y hF rfl rfl (by decide) _ (y_field rfl Tryz.underlying152 rfl sz27_or (by decide) rfl (rfl : (⟨_, 0 + _, none⟩ : Addr) = ⟨_, 0, none⟩)) (fun a hF => ?_)
    refine vc_y hF rfl rfl (by decide) _ (y_loadAt rfl hw rfl 0 rfl rfl ow_no24) (fun a hF => ?_)
    refine vc_y hF rfl rfl (by decide) _ (y_move rfl rfl) (fun a hF => ?_)
    refine vc_y hF rfl rfl (by decide) _ (y_move rfl rfl) (fun a hF => ?_)
    refine vc_y hF rfl rfl (by decide) _ (y_move rfl rfl) (fun a hF => ?_)
    refine vc_y hF rfl rfl (by decide) _ (y_add rfl rfl rfl (show IntKind.i64.wrap ((q : Int) + 2) = ((q + 2 : Nat) : Int) by rw [IntWalk.i64_in _ (by omega)]; omega)) (fun a hF => ?_)
    refine vc_y hF rfl rfl (by decide) _ (y_slice rfl Tryz.underlying27 ow_size5 rfl (.some rfl rfl) (.some rfl rfl) (Nat.le_add_right _ _) (by omega) (show Value.slice (sub A q c 1) (q + 2 - q) (c - q) = .slice (some ⟨b, o, none⟩) 2 (c - q) by rw [hAd, Nat.add_sub_cancel_left])) (fun a hF => ?_)
    refine vc_y hF rfl rfl (by decide) _ (y_lenSl rfl Tryz.underlying27 rfl rfl) (fun a hF => ?_)
    refine vc_y hF rfl rfl (by decide) _ (y_move rfl rfl) (fun a hF => ?_)
    refine vc_nil ?_
    refine hK8 _ _ ?_; clear  hK8 K8
    apply wp_block
    refine vc_loop (G := Nat) (fun i a x => i ≤ 2 ∧ Fr 47 [(32, .int .i64 (i : Int)), (30, .slice (some ⟨b, o, none⟩) 2 (c - q)), (31, .int .i64 2), (8, .int .u64 (num (((l.drop q).take 2).take i) : Int)), (0, .pointer (some ⟨rb, 0, none⟩)), (1, .int .i64 (q : Int)), (7, .int .i64 2)] a ∧ x = w) (fun i => 2 - i) 0 ⟨Nat.zero_le _, hF.keep [32, 30, 31, 8, 0, 1, 7] rfl, rfl⟩ ?_
    clear hF
    rintro i a wr ⟨hi, hF, hx⟩
    subst hx
    by_cases hik : i < 2
    · apply wp_seq_k; intro K9 hK9
      refine wp_region_lit ?_
      refine vc_y hF rfl rfl (by decide) _ (y_cmp rfl rfl rfl rfl rfl) (fun a hF => ?_)
      refine vc_nil ?_
      refine hK9 _ _ ?_; clear  hK9 K9
      apply wp_seq_k; intro K10 hK10
      refine vc_trueB hF rfl (lss_t (by omega)) ?_
      apply wp_skip
      refine hK10 _ _ ?_; clear  hK10 K10
      apply wp_seq_k; intro K11 hK11
      apply wp_block
      apply wp_seq_k; intro K12 hK12
      refine wp_region_lit ?_
      refine vc_y hF rfl rfl (by decide) _ (y_ixSl rfl Tryz.underlying27 sz5_or rfl rfl i rfl (by omega) (ad2 _ _ _)) (fun a hF => ?_)
      refine vc_y hF rfl rfl (by decide) _ (y_load1 rfl rfl (hcell i (by omega)) (by kernel_rfl)) (fun a hF => ?_)
      refine vc_y hF rfl rfl (by decide) _ (y_assign rfl rfl) (fun a hF => ?_)
      refine vc_nil ?_
      refine hK12 _ _ ?_; clear  hK12 K12
      refine wp_region_lit ?_
      refine vc_y hF rfl rfl (by decide) _ (y_move rfl rfl) (fun a hF => ?_)
      refine vc_y hF rfl rfl (by decide) _ (y_shl rfl rfl rfl (by decide) (or_shl _ (num_small hik (by decide)))) (fun a hF => ?_)
      refine vc_y hF rfl rfl (by decide) _ (y_move rfl rfl) (fun a hF => ?_)
      refine vc_y hF rfl rfl (by decide) _ (y_conv rfl Tryz.underlying5 Tryz.underlying135 rfl (show IntKind.u64.wrap ((bAt ((l.drop q).take 2) i).toNat : Int) = ((bAt ((l.drop q).take 2) i).toNat : Int) by have := (bAt ((l.drop q).take 2) i).toNat_lt; rw [IntKind.wrap_u64]; omega)) (fun a hF => ?_)
      refine vc_y hF rfl rfl (by decide) _ (y_or rfl rfl rfl (or_or _ _ (num_small hik (by decide)))) (fun a hF => ?_)
      refine vc_y hF rfl rfl (by decide) _ (y_assign rfl rfl) (fun a hF => ?_)
      refine vc_nil ?_
      refine hK11 _ _ ?_; clear  hK11 K11
      refine wp_region_lit ?_
      refine vc_y hF rfl rfl (by decide) _ (y_add rfl rfl rfl (IntWalk.i64_in _ (by omega))) (fun a hF => ?_)
      refine vc_y hF rfl rfl (by decide) _ (y_move rfl rfl) (fun a hF => ?_)
      refine vc_nil ?_
      rw [← num_take (by omega)] at hF
      exact ⟨i + 1, by omega, by omega, hF.keep [32, 30, 31, 8, 0, 1, 7] rfl, rfl⟩
    · obtain rfl : i = 2 := by omega
      rw [List.take_of_length_le (Nat.le_of_eq hml)] at hF
      apply wp_seq_k; intro K13 hK13
      refine wp_region_lit ?_
      refine vc_y hF rfl rfl (by decide) _ (y_cmp rfl rfl rfl rfl rfl) (fun a hF => ?_)
      refine vc_nil ?_
      refine hK13 _ _ ?_; clear  hK13 K13
      apply wp_seq_k; intro K14 hK14
      refine vc_falseB hF rfl (lss_f (by omega)) ?_
      apply wp_exit
      refine hK7 _ _ ?_; clear hK14 K14 hK7 K7
      apply wp_seq_k; intro K15 hK15
      refine wp_region_lit ?_
      refine vc_y hF rfl rfl (by decide) _ (y_move rfl rfl) (fun a hF => ?_)
      refine vc_y hF rfl rfl (by decide) _ (y_conv rfl Tryz.underlying135 Tryz.underlying81 rfl (show IntKind.u16.wrap (num ((l.drop q).take 2) : Int) = (num ((l.drop q).take 2) : Int) by rw [IntKind.wrap_u16]; omega)) (fun a hF => ?_)
      refine vc_y hF rfl rfl (by decide) _ (y_move rfl rfl) (fun a hF => ?_)
      refine vc_y hF rfl rfl (by decide) _ (y_move rfl rfl) (fun a hF => ?_)
      refine vc_y hF rfl rfl (by decide) _ (y_add rfl rfl rfl (show IntKind.i64.wrap ((q : Int) + 2) = ((q + 2 : Nat) : Int) by rw [IntWalk.i64_in _ (by omega)]; omega)) (fun a hF => ?_)
      refine vc_y hF rfl rfl (by decide) _ (y_assign rfl rfl) (fun a hF => ?_)
      refine vc_y hF rfl rfl (by decide) _ (y_assign rfl rfl) (fun a hF => ?_)
      refine vc_y hF rfl rfl (by decide) _ (y_assign rfl rfl) (fun a hF => ?_)
      refine vc_nil ?_
      refine hK15 _ _ ?_; clear  hK15 K15
      apply wp_ret
      refine vc_ret3 hF Tryz.results98 rfl rfl rfl ?_
      have hle : q + 2 ≤ l.length := by omega
      exact ⟨by rw [ahN, ahTo, ahOk, if_pos hle, if_pos hle, decide_eq_true hle], rfl⟩

set_option maxRecDepth 100000 in
set_option maxHeartbeats 1000000 in
theorem or_ahead_uint32 (w0 w : World) (rb : Nat) (R : List Row) (A : Option Addr) (l : List UInt8) (c p y : Nat) (q : Nat) (hB : ∀ (v : List Value) (x : World), At w0 ((rb, 152, v) :: R) x → Bts x A l) (hc : l.length ≤ c) (hw : At w0 ((rb, 152, [.slice A l.length c, .int .i64 (p : Int), .int .i64 (y : Int)]) :: R) w) (hl : l.length < 140737488354000) (hq : q ≤ l.length) : Calls Tryz.prog 142 #[.pointer (some ⟨rb, 0, none⟩), .int .i64 (q : Int)] w fun e w' => e = .returned (.tuple #[.int .u32 (ahN 4 l q : Int), .int .i64 (ahTo 4 l q : Int), .bool (ahOk 4 l q)]) ∧ w = w' := by
  refine vc_enter Tryz.func142 rfl Tryz.ntmps142 (Nat.le_of_ble_eq_true rfl) (fun a hF => ?_)
  apply wp_seq_k; intro K1 hK1
  refine wp_region_lit ?_
  refine vc_y hF rfl rfl (by decide) _ (y_assign rfl rfl) (fun a hF => ?_)
  refine vc_y hF rfl rfl (by decide) _ (y_assign rfl rfl) (fun a hF => ?_)
  refine vc_y hF rfl rfl (by decide) _ (y_assign rfl rfl) (fun a hF => ?_)
  refine vc_nil ?_
  refine hK1 _ _ ?_; clear  hK1 K1
  apply wp_seq_k; intro K2 hK2
  refine wp_region_lit ?_
  refine vc_op rfl (fun K hK => ws_call hF rfl (by decide) cl152_or rfl rfl ?_)
  with_reducible refine (ow_width_uint32 w).mono ?_
  rintro e' w' ⟨rfl, rfl⟩
  refine ⟨_, rfl, fun a hF => hK _ _ ?_⟩; clear hK K
  refine vc_y hF rfl rfl (by decide) _ (y_assign rfl rfl) (fun a hF => ?_)
  refine vc_nil ?_
  refine hK2 _ _ ?_; clear  hK2 K2
  apply wp_seq_k; intro K3 hK3
  apply wp_seq_k; intro K4 hK4
  refine wp_region_lit ?_
  refine vc_y hF rfl rfl (by decide) _ (y_move rfl rfl) (fun a hF => ?_)
  refine vc_y hF rfl rfl (by decide) _ (y_move rfl rfl) (fun a hF => ?_)
  refine vc_y hF rfl rfl (by decide) _ (y_nilCheck rfl rfl) (fun a hF => ?_)
  refine vc_y hF rfl rfl (by decide) _ (y_field rfl Tryz.underlying152 rfl sz27_or (by decide) rfl (rfl : (⟨_, 0 + _, none⟩ : Addr) = ⟨_, 0, none⟩)) (fun a hF => ?_)
  refine vc_y hF rfl rfl (by decide) _ (y_loadAt rfl hw rfl 0 rfl rfl ow_no24) (fun a hF => ?_)
  refine vc_y hF rfl rfl (by decide) _ (y_lenSl rfl Tryz.underlying27 rfl rfl) (fun a hF => ?_)
  refine vc_y hF rfl rfl (by decide) _ (y_move rfl rfl) (fun a hF => ?_)
  refine vc_y hF rfl rfl (by decide) _ (y_sub rfl rfl rfl (IntWalk.i64_in _ (by omega))) (fun a hF => ?_)
  refine vc_y hF rfl rfl (by decide) _ (y_cmp rfl rfl rfl rfl rfl) (fun a hF => ?_)
  refine vc_nil ?_
  refine hK4 _ _ ?_; clear  hK4 K4
  by_cases hgt : ¬(q + 4 ≤ l.length)
  · refine vc_trueB hF rfl (gtr_t (by omega)) ?_
    apply wp_seq_k; intro K5 hK5
    refine wp_region_lit ?_
    refine vc_y hF rfl rfl (by decide) _ (y_move rfl rfl) (fun a hF => ?_)
    refine vc_y hF rfl rfl (by decide) _ (y_assign rfl rfl) (fun a hF => ?_)
    refine vc_y hF rfl rfl (by decide) _ (y_assign rfl rfl) (fun a hF => ?_)
    refine vc_y hF rfl rfl (by decide) _ (y_assign rfl rfl) (fun a hF => ?_)
    refine vc_nil ?_
    refine hK5 _ _ ?_; clear  hK5 K5
    apply wp_ret
    simp only [Exit.then]
    refine vc_ret3 hF Tryz.results142 rfl rfl rfl ?_
    exact ⟨by rw [ahN, ahTo, ahOk, if_neg hgt, if_neg hgt, decide_eq_false hgt]; rfl, rfl⟩
  · refine vc_falseB hF rfl (gtr_f (by omega)) ?_
    have hml : ((l.drop q).take 4).length = 4 := by rw [List.length_take, List.length_drop]; omega
    have hnum := num_lt ((l.drop q).take 4)
    rw [hml] at hnum
    obtain ⟨b, o, hAd, _, hcell⟩ := ((hB _ _ hw).drop q hc).take 4 (by intro e; rw [e] at hml; cases hml)
    rw [hml] at hcell
    apply wp_skip
    refine hK3 _ _ ?_; clear  hK3 K3
    apply wp_seq_k; intro K6 hK6
    refine wp_region_lit ?_
    refine vc_y hF rfl rfl (by decide) _ (y_assign rfl rfl) (fun a hF => ?_)
    refine vc_nil ?_
    refine hK6 _ _ ?_; clear  hK6 K6
    apply wp_seq_k; intro K7 hK7
    apply wp_seq_k; intro K8 hK8
    refine wp_region_lit ?_
    refine vc_y hF rfl rfl (by decide) _ (y_move rfl rfl) (fun a hF => ?_)
    refine vc_y hF rfl rfl (by decide) _ (y_nilCheck rfl rfl) (fun a hF => ?_)
    refine vc_y hF rfl rfl (by decide) _ (y_field rfl Tryz.underlying152 rfl sz27_or (by decide) rfl (rfl : (⟨_, 0 + _, none⟩ : Addr) = ⟨_, 0, none⟩)) (fun a hF => ?_)
    refine vc_y hF rfl rfl (by decide) _ (y_loadAt rfl hw rfl 0 rfl rfl ow_no24) (fun a hF => ?_)
    refine vc_y hF rfl rfl (by decide) _ (y_move rfl rfl) (fun a hF => ?_)
    refine vc_y hF rfl rfl (by decide) _ (y_move rfl rfl) (fun a hF => ?_)
    refine vc_y hF rfl rfl (by decide) _ (y_move rfl rfl) (fun a hF => ?_)
    refine vc_y hF rfl rfl (by decide) _ (y_add rfl rfl rfl (show IntKind.i64.wrap ((q : Int) + 4) = ((q + 4 : Nat) : Int) by rw [IntWalk.i64_in _ (by omega)]; omega)) (fun a hF => ?_)
    refine vc_y hF rfl rfl (by decide) _ (y_slice rfl Tryz.underlying27 ow_size5 rfl (.some rfl rfl) (.some rfl rfl) (Nat.le_add_right _ _) (by omega) (show Value.slice (sub A q c 1) (q + 4 - q) (c - q) = .slice (some ⟨b, o, none⟩) 4 (c - q) by rw [hAd, Nat.add_sub_cancel_left])) (fun a hF => ?_)
    refine vc_y hF rfl rfl (by decide) _ (y_lenSl rfl Tryz.underlying27 rfl rfl) (fun a hF => ?_)
    refine vc_y hF rfl rfl (by decide) _ (y_move rfl rfl) (fun a hF => ?_)
    refine vc_nil ?_
    refine hK8 _ _ ?_; clear  hK8 K8
    apply wp_block
    refine vc_loop (G := Nat) (fun i a x => i ≤ 4 ∧ Fr 47 [(32, .int .i64 (i : Int)), (30, .slice (some ⟨b, o, none⟩) 4 (c - q)), (31, .int .i64 4), (8, .int .u64 (num (((l.drop q).take 4).take i) : Int)), (0, .pointer (some ⟨rb, 0, none⟩)), (1, .int .i64 (q : Int)), (7, .int .i64 4)] a ∧ x = w) (fun i => 4 - i) 0 ⟨Nat.zero_le _, hF.keep [32, 30, 31, 8, 0, 1, 7] rfl, rfl⟩ ?_
    clear hF
    rintro i a wr ⟨hi, hF, hx⟩
    subst hx
    by_cases hik : i < 4
    · apply wp_seq_k; intro K9 hK9
      refine wp_region_lit ?_
      refine vc_y hF rfl rfl (by decide) _ (y_cmp rfl rfl rfl rfl rfl) (fun a hF => ?_)
      refine vc_nil ?_
      refine hK9 _ _ ?_; clear  hK9 K9
      apply wp_seq_k; intro K10 hK10
      refine vc_trueB hF rfl (lss_t (by omega)) ?_
      apply wp_skip
      refine hK10 _ _ ?_; clear  hK10 K10
      apply wp_seq_k; intro K11 hK11
      apply wp_block
      apply wp_seq_k; intro K12 hK12
      refine wp_region_lit ?_
      refine vc_y hF rfl rfl (by decide) _ (y_ixSl rfl Tryz.underlying27 sz5_or rfl rfl i rfl (by omega) (ad2 _ _ _)) (fun a hF => ?_)
      refine vc_y hF rfl rfl (by decide) _ (y_load1 rfl rfl (hcell i (by omega)) (by kernel_rfl)) (fun a hF => ?_)
      refine vc_y hF rfl rfl (by decide) _ (y_assign rfl rfl) (fun a hF => ?_)
      refine vc_nil ?_
      refine hK12 _ _ ?_; clear  hK12 K12
      refine wp_region_lit ?_
      refine vc_y hF rfl rfl (by decide) _ (y_move rfl rfl) (fun a hF => ?_)
      refine vc_y hF rfl rfl (by decide) _ (y_shl rfl rfl rfl (by decide) (or_shl _ (num_small hik (by decide)))) (fun a hF => ?_)
      refine vc_y hF rfl rfl (by decide) _ (y_move rfl rfl) (fun a hF => ?_)
      refine vc_y hF rfl rfl (by decide) _ (y_conv rfl Tryz.underlying5 Tryz.underlying135 rfl (show IntKind.u64.wrap ((bAt ((l.drop q).take 4) i).toNat : Int) = ((bAt ((l.drop q).take 4) i).toNat : Int) by have := (bAt ((l.drop q).take 4) i).toNat_lt; rw [IntKind.wrap_u64]; omega)) (fun a hF => ?_)
      refine vc_y hF rfl rfl (by decide) _ (y_or rfl rfl rfl (or_or _ _ (num_small hik (by decide)))) (fun a hF => ?_)
      refine vc_y hF rfl rfl (by decide) _ (y_assign rfl rfl) (fun a hF => ?_)
      refine vc_nil ?_
      refine hK11 _ _ ?_; clear  hK11 K11
      refine wp_region_lit ?_
      refine vc_y hF rfl rfl (by decide) _ (y_add rfl rfl rfl (IntWalk.i64_in _ (by omega))) (fun a hF => ?_)
      refine vc_y hF rfl rfl (by decide) _ (y_move rfl rfl) (fun a hF => ?_)
      refine vc_nil ?_
      rw [← num_take (by omega)] at hF
      exact ⟨i + 1, by omega, by omega, hF.keep [32, 30, 31, 8, 0, 1, 7] rfl, rfl⟩
    · obtain rfl : i = 4 := by omega
      rw [List.take_of_length_le (Nat.le_of_eq hml)] at hF
      apply wp_seq_k; intro K13 hK13
      refine wp_region_lit ?_
      refine vc_y hF rfl rfl (by decide) _ (y_cmp rfl rfl rfl rfl rfl) (fun a hF => ?_)
      refine vc_nil ?_
      refine hK13 _ _ ?_; clear  hK13 K13
      apply wp_seq_k; intro K14 hK14
      refine vc_falseB hF rfl (lss_f (by omega)) ?_
      apply wp_exit
      refine hK7 _ _ ?_; clear hK14 K14 hK7 K7
      apply wp_seq_k; intro K15 hK15
      refine wp_region_lit ?_
      refine vc_y hF rfl rfl (by decide) _ (y_move rfl rfl) (fun a hF => ?_)
      refine vc_y hF rfl rfl (by decide) _ (y_conv rfl Tryz.underlying135 Tryz.underlying150 rfl (show IntKind.u32.wrap (num ((l.drop q).take 4) : Int) = (num ((l.drop q).take 4) : Int) by rw [IntKind.wrap_u32]; omega)) (fun a hF => ?_)
      refine vc_y hF rfl rfl (by decide) _ (y_move rfl rfl) (fun a hF => ?_)
      refine vc_y hF rfl rfl (by decide) _ (y_move rfl rfl) (fun a hF => ?_)
      refine vc_y hF rfl rfl (by decide) _ (y_add rfl rfl rfl (show IntKind.i64.wrap ((q : Int) + 4) = ((q + 4 : Nat) : Int) by rw [IntWalk.i64_in _ (by omega)]; omega)) (fun a hF => ?_)
      refine vc_y hF rfl rfl (by decide) _ (y_assign rfl rfl) (fun a hF => ?_)
      refine vc_y hF rfl rfl (by decide) _ (y_assign rfl rfl) (fun a hF => ?_)
      refine vc_y hF rfl rfl (by decide) _ (y_assign rfl rfl) (fun a hF => ?_)
      refine vc_nil ?_
      refine hK15 _ _ ?_; clear  hK15 K15
      apply wp_ret
      refine vc_ret3 hF Tryz.results142 rfl rfl rfl ?_
      have hle : q + 4 ≤ l.length := by omega
      exact ⟨by rw [ahN, ahTo, ahOk, if_pos hle, if_pos hle, decide_eq_true hle], rfl⟩

set_option maxRecDepth 100000 in
set_option maxHeartbeats 1000000 in
theorem or_ahead_uint64 (w0 w : World) (rb : Nat) (R : List Row) (A : Option Addr) (l : List UInt8) (c p y : Nat) (q : Nat) (hB : ∀ (v : List Value) (x : World), At w0 ((rb, 152, v) :: R) x → Bts x A l) (hc : l.length ≤ c) (hw : At w0 ((rb, 152, [.slice A l.length c, .int .i64 (p : Int), .int .i64 (y : Int)]) :: R) w) (hl : l.length < 140737488354000) (hq : q ≤ l.length) : Calls Tryz.prog 140 #[.pointer (some ⟨rb, 0, none⟩), .int .i64 (q : Int)] w fun e w' => e = .returned (.tuple #[.int .u64 (ahN 8 l q : Int), .int .i64 (ahTo 8 l q : Int), .bool (ahOk 8 l q)]) ∧ w = w' := by
  refine vc_enter Tryz.func140 rfl Tryz.ntmps140 (Nat.le_of_ble_eq_true rfl) (fun a hF => ?_)
  apply wp_seq_k; intro K1 hK1
  refine wp_region_lit ?_
  refine vc_y hF rfl rfl (by decide) _ (y_assign rfl rfl) (fun a hF => ?_)
  refine vc_y hF rfl rfl (by decide) _ (y_assign rfl rfl) (fun a hF => ?_)
  refine vc_y hF rfl rfl (by decide) _ (y_assign rfl rfl) (fun a hF => ?_)
  refine vc_nil ?_
  refine hK1 _ _ ?_; clear  hK1 K1
  apply wp_seq_k; intro K2 hK2
  refine wp_region_lit ?_
  refine vc_op rfl (fun K hK => ws_call hF rfl (by decide) cl138_or rfl rfl ?_)
  with_reducible refine (ow_width_uint64 w).mono ?_
  rintro e' w' ⟨rfl, rfl⟩
  refine ⟨_, rfl, fun a hF => hK _ _ ?_⟩; clear hK K
  refine vc_y hF rfl rfl (by decide) _ (y_assign rfl rfl) (fun a hF => ?_)
  refine vc_nil ?_
  refine hK2 _ _ ?_; clear  hK2 K2
  apply wp_seq_k; intro K3 hK3
  apply wp_seq_k; intro K4 hK4
  refine wp_region_lit ?_
  refine vc_y hF rfl rfl (by decide) _ (y_move rfl rfl) (fun a hF => ?_)
  refine vc_y hF rfl rfl (by decide) _ (y_move rfl rfl) (fun a hF => ?_)
  refine vc_y hF rfl rfl (by decide) _ (y_nilCheck rfl rfl) (fun a hF => ?_)
  refine vc_y hF rfl rfl (by decide) _ (y_field rfl Tryz.underlying152 rfl sz27_or (by decide) rfl (rfl : (⟨_, 0 + _, none⟩ : Addr) = ⟨_, 0, none⟩)) (fun a hF => ?_)
  refine vc_y hF rfl rfl (by decide) _ (y_loadAt rfl hw rfl 0 rfl rfl ow_no24) (fun a hF => ?_)
  refine vc_y hF rfl rfl (by decide) _ (y_lenSl rfl Tryz.underlying27 rfl rfl) (fun a hF => ?_)
  refine vc_y hF rfl rfl (by decide) _ (y_move rfl rfl) (fun a hF => ?_)
  refine vc_y hF rfl rfl (by decide) _ (y_sub rfl rfl rfl (IntWalk.i64_in _ (by omega))) (fun a hF => ?_)
  refine vc_y hF rfl rfl (by decide) _ (y_cmp rfl rfl rfl rfl rfl) (fun a hF => ?_)
  refine vc_nil ?_
  refine hK4 _ _ ?_; clear  hK4 K4
  by_cases hgt : ¬(q + 8 ≤ l.length)
  · refine vc_trueB hF rfl (gtr_t (by omega)) ?_
    apply wp_seq_k; intro K5 hK5
    refine wp_region_lit ?_
    refine vc_y hF rfl rfl (by decide) _ (y_move rfl rfl) (fun a hF => ?_)
    refine vc_y hF rfl rfl (by decide) _ (y_assign rfl rfl) (fun a hF => ?_)
    refine vc_y hF rfl rfl (by decide) _ (y_assign rfl rfl) (fun a hF => ?_)
    refine vc_y hF rfl rfl (by decide) _ (y_assign rfl rfl) (fun a hF => ?_)
    refine vc_nil ?_
    refine hK5 _ _ ?_; clear  hK5 K5
    apply wp_ret
    simp only [Exit.then]
    refine vc_ret3 hF Tryz.results140 rfl rfl rfl ?_
    exact ⟨by rw [ahN, ahTo, ahOk, if_neg hgt, if_neg hgt, decide_eq_false hgt]; rfl, rfl⟩
  · refine vc_falseB hF rfl (gtr_f (by omega)) ?_
    have hml : ((l.drop q).take 8).length = 8 := by rw [List.length_take, List.length_drop]; omega
    have hnum := num_lt ((l.drop q).take 8)
    rw [hml] at hnum
    obtain ⟨b, o, hAd, _, hcell⟩ := ((hB _ _ hw).drop q hc).take 8 (by intro e; rw [e] at hml; cases hml)
    rw [hml] at hcell
    apply wp_skip
    refine hK3 _ _ ?_; clear  hK3 K3
    apply wp_seq_k; intro K6 hK6
    refine wp_region_lit ?_
    refine vc_y hF rfl rfl (by decide) _ (y_assign rfl rfl) (fun a hF => ?_)
    refine vc_nil ?_
    refine hK6 _ _ ?_; clear  hK6 K6
    apply wp_seq_k; intro K7 hK7
    apply wp_seq_k; intro K8 hK8
    refine wp_region_lit ?_
    refine vc_y hF rfl rfl (by decide) _ (y_move rfl rfl) (fun a hF => ?_)
    refine vc_y hF rfl rfl (by decide) _ (y_nilCheck rfl rfl) (fun a hF => ?_)
    refine vc_y hF rfl rfl (by decide) _ (y_field rfl Tryz.underlying152 rfl sz27_or (by decide) rfl (rfl : (⟨_, 0 + _, none⟩ : Addr) = ⟨_, 0, none⟩)) (fun a hF => ?_)
    refine vc_y hF rfl rfl (by decide) _ (y_loadAt rfl hw rfl 0 rfl rfl ow_no24) (fun a hF => ?_)
    refine vc_y hF rfl rfl (by decide) _ (y_move rfl rfl) (fun a hF => ?_)
    refine vc_y hF rfl rfl (by decide) _ (y_move rfl rfl) (fun a hF => ?_)
    refine vc_y hF rfl rfl (by decide) _ (y_move rfl rfl) (fun a hF => ?_)
    refine vc_y hF rfl rfl (by decide) _ (y_add rfl rfl rfl (show IntKind.i64.wrap ((q : Int) + 8) = ((q + 8 : Nat) : Int) by rw [IntWalk.i64_in _ (by omega)]; omega)) (fun a hF => ?_)
    refine vc_y hF rfl rfl (by decide) _ (y_slice rfl Tryz.underlying27 ow_size5 rfl (.some rfl rfl) (.some rfl rfl) (Nat.le_add_right _ _) (by omega) (show Value.slice (sub A q c 1) (q + 8 - q) (c - q) = .slice (some ⟨b, o, none⟩) 8 (c - q) by rw [hAd, Nat.add_sub_cancel_left])) (fun a hF => ?_)
    refine vc_y hF rfl rfl (by decide) _ (y_lenSl rfl Tryz.underlying27 rfl rfl) (fun a hF => ?_)
    refine vc_y hF rfl rfl (by decide) _ (y_move rfl rfl) (fun a hF => ?_)
    refine vc_nil ?_
    refine hK8 _ _ ?_; clear  hK8 K8
    apply wp_block
    refine vc_loop (G := Nat) (fun i a x => i ≤ 8 ∧ Fr 46 [(32, .int .i64 (i : Int)), (30, .slice (some ⟨b, o, none⟩) 8 (c - q)), (31, .int .i64 8), (8, .int .u64 (num (((l.drop q).take 8).take i) : Int)), (0, .pointer (some ⟨rb, 0, none⟩)), (1, .int .i64 (q : Int)), (7, .int .i64 8)] a ∧ x = w) (fun i => 8 - i) 0 ⟨Nat.zero_le _, hF.keep [32, 30, 31, 8, 0, 1, 7] rfl, rfl⟩ ?_
    clear hF
    rintro i a wr ⟨hi, hF, hx⟩
    subst hx
    by_cases hik : i < 8
    · apply wp_seq_k; intro K9 hK9
      refine wp_region_lit ?_
      refine vc_y hF rfl rfl (by decide) _ (y_cmp rfl rfl rfl rfl rfl) (fun a hF => ?_)
      refine vc_nil ?_
      refine hK9 _ _ ?_; clear  hK9 K9
      apply wp_seq_k; intro K10 hK10
      refine vc_trueB hF rfl (lss_t (by omega)) ?_
      apply wp_skip
      refine hK10 _ _ ?_; clear  hK10 K10
      apply wp_seq_k; intro K11 hK11
      apply wp_block
      apply wp_seq_k; intro K12 hK12
      refine wp_region_lit ?_
      refine vc_y hF rfl rfl (by decide) _ (y_ixSl rfl Tryz.underlying27 sz5_or rfl rfl i rfl (by omega) (ad2 _ _ _)) (fun a hF => ?_)
      refine vc_y hF rfl rfl (by decide) _ (y_load1 rfl rfl (hcell i (by omega)) (by kernel_rfl)) (fun a hF => ?_)
      refine vc_y hF rfl rfl (by decide) _ (y_assign rfl rfl) (fun a hF => ?_)
      refine vc_nil ?_
      refine hK12 _ _ ?_; clear  hK12 K12
      refine wp_region_lit ?_
      refine vc_y hF rfl rfl (by decide) _ (y_move rfl rfl) (fun a hF => ?_)
      refine vc_y hF rfl rfl (by decide) _ (y_shl rfl rfl rfl (by decide) (or_shl _ (num_small hik (by decide)))) (fun a hF => ?_)
      refine vc_y hF rfl rfl (by decide) _ (y_move rfl rfl) (fun a hF => ?_)
      refine vc_y hF rfl rfl (by decide) _ (y_conv rfl Tryz.underlying5 Tryz.underlying135 rfl (show IntKind.u64.wrap ((bAt ((l.drop q).take 8) i).toNat : Int) = ((bAt ((l.drop q).take 8) i).toNat : Int) by have := (bAt ((l.drop q).take 8) i).toNat_lt; rw [IntKind.wrap_u64]; omega)) (fun a hF => ?_)
      refine vc_y hF rfl rfl (by decide) _ (y_or rfl rfl rfl (or_or _ _ (num_small hik (by decide)))) (fun a hF => ?_)
      refine vc_y hF rfl rfl (by decide) _ (y_assign rfl rfl) (fun a hF => ?_)
      refine vc_nil ?_
      refine hK11 _ _ ?_; clear  hK11 K11
      refine wp_region_lit ?_
      refine vc_y hF rfl rfl (by decide) _ (y_add rfl rfl rfl (IntWalk.i64_in _ (by omega))) (fun a hF => ?_)
      refine vc_y hF rfl rfl (by decide) _ (y_move rfl rfl) (fun a hF => ?_)
      refine vc_nil ?_
      rw [← num_take (by omega)] at hF
      exact ⟨i + 1, by omega, by omega, hF.keep [32, 30, 31, 8, 0, 1, 7] rfl, rfl⟩
    · obtain rfl : i = 8 := by omega
      rw [List.take_of_length_le (Nat.le_of_eq hml)] at hF
      apply wp_seq_k; intro K13 hK13
      refine wp_region_lit ?_
      refine vc_y hF rfl rfl (by decide) _ (y_cmp rfl rfl rfl rfl rfl) (fun a hF => ?_)
      refine vc_nil ?_
      refine hK13 _ _ ?_; clear  hK13 K13
      apply wp_seq_k; intro K14 hK14
      refine vc_falseB hF rfl (lss_f (by omega)) ?_
      apply wp_exit
      refine hK7 _ _ ?_; clear hK14 K14 hK7 K7
      apply wp_seq_k; intro K15 hK15
      refine wp_region_lit ?_
      refine vc_y hF rfl rfl (by decide) _ (y_move rfl rfl) (fun a hF => ?_)
      refine vc_y hF rfl rfl (by decide) _ (y_move rfl rfl) (fun a hF => ?_)
      refine vc_y hF rfl rfl (by decide) _ (y_move rfl rfl) (fun a hF => ?_)
      refine vc_y hF rfl rfl (by decide) _ (y_add rfl rfl rfl (show IntKind.i64.wrap ((q : Int) + 8) = ((q + 8 : Nat) : Int) by rw [IntWalk.i64_in _ (by omega)]; omega)) (fun a hF => ?_)
      refine vc_y hF rfl rfl (by decide) _ (y_assign rfl rfl) (fun a hF => ?_)
      refine vc_y hF rfl rfl (by decide) _ (y_assign rfl rfl) (fun a hF => ?_)
      refine vc_y hF rfl rfl (by decide) _ (y_assign rfl rfl) (fun a hF => ?_)
      refine vc_nil ?_
      refine hK15 _ _ ?_; clear  hK15 K15
      apply wp_ret
      refine vc_ret3 hF Tryz.results140 rfl rfl rfl ?_
      have hle : q + 8 ≤ l.length := by omega
      exact ⟨by rw [ahN, ahTo, ahOk, if_pos hle, if_pos hle, decide_eq_true hle], rfl⟩

set_option maxRecDepth 100000 in
set_option maxHeartbeats 1000000 in
theorem or_take_uint64 (w0 w : World) (rb : Nat) (R : List Row) (A : Option Addr) (l : List UInt8) (c p y : Nat) (hB : ∀ (v : List Value) (x : World), At w0 ((rb, 152, v) :: R) x → Bts x A l) (hc : l.length ≤ c) (hw : At w0 ((rb, 152, [.slice A l.length c, .int .i64 (p : Int), .int .i64 (y : Int)]) :: R) w) (hp : p ≤ l.length) (hl : l.length < 140737488354000) : Calls Tryz.prog 80 #[.pointer (some ⟨rb, 0, none⟩)] w fun e w' => e = .returned (.int .u64 (tkN 8 l p y : Int)) ∧ At w0 ((rb, 152, [.slice A l.length c, .int .i64 ((tkP 8 l p y : Nat) : Int), .int .i64 ((tkY 8 l p y : Nat) : Int)]) :: R) w' := by
  by_cases hy : y = 0
  · subst hy
    by_cases hle : p + 8 ≤ l.length
    · rw [show tkN 8 l p 0 = ahN 8 l p from rfl, show tkP 8 l p 0 = p + 8 from if_pos hle, show tkY 8 l p 0 = 0 from if_pos hle]
      refine vc_enter Tryz.func80 rfl Tryz.ntmps80 (Nat.le_of_ble_eq_true rfl) (fun a hF => ?_)
      apply wp_seq_k; intro K1 hK1
      refine wp_region_lit ?_
      refine vc_y hF rfl rfl (by decide) _ (y_assign rfl rfl) (fun a hF => ?_)
      refine vc_nil ?_
      refine hK1 _ _ ?_; clear  hK1 K1
      apply wp_seq_k; intro K2 hK2
      apply wp_seq_k; intro K3 hK3
      refine wp_region_lit ?_
      refine vc_y hF rfl rfl (by decide) _ (y_move rfl rfl) (fun a hF => ?_)
      refine vc_y hF rfl rfl (by decide) _ (y_eqNil rfl (by kernel_rfl) rfl rfl) (fun a hF => ?_)
      refine vc_y hF rfl rfl (by decide) _ (y_move rfl rfl) (fun a hF => ?_)
      refine vc_yg hF rfl rfl rfl rfl rfl (by decide) _ (y_move rfl rfl) (fun a hF => ?_)
      refine vc_yg hF rfl rfl rfl rfl rfl (by decide) _ (y_nilCheck rfl rfl) (fun a hF => ?_)
      refine vc_yg hF rfl rfl rfl rfl rfl (by decide) _ (y_field rfl Tryz.underlying152 rfl sz40_or (by decide) rfl (rfl : (⟨_, 0 + _, none⟩ : Addr) = ⟨_, 2, none⟩)) (fun a hF => ?_)
      refine vc_yg hF rfl rfl rfl rfl rfl (by decide) _ (y_loadAt rfl hw rfl 0 rfl rfl or_no57) (fun a hF => ?_)
      refine vc_yg hF rfl rfl rfl rfl rfl (by decide) _ (y_cmp (c := false) rfl rfl rfl rfl (neq_f rfl)) (fun a hF => ?_)
      refine vc_y hF rfl rfl (by decide) _ (y_pick rfl rfl rfl) (fun a hF => ?_)
      refine vc_nil ?_
      refine hK3 _ _ ?_; clear  hK3 K3
      refine vc_false hF rfl ?_
      apply wp_skip
      refine hK2 _ _ ?_; clear  hK2 K2
      apply wp_seq_k; intro K4 hK4
      refine wp_region_lit ?_
      refine vc_y hF rfl rfl (by decide) _ (y_move rfl rfl) (fun a hF => ?_)
      refine vc_y hF rfl rfl (by decide) _ (y_move rfl rfl) (fun a hF => ?_)
      refine vc_y hF rfl rfl (by decide) _ (y_nilCheck rfl rfl) (fun a hF => ?_)
      refine vc_y hF rfl rfl (by decide) _ (y_field rfl Tryz.underlying152 rfl sz3_or (by decide) rfl (rfl : (⟨_, 0 + _, none⟩ : Addr) = ⟨_, 1, none⟩)) (fun a hF => ?_)
      refine vc_y hF rfl rfl (by decide) _ (y_loadAt rfl hw rfl 0 rfl rfl or_no3) (fun a hF => ?_)
      refine vc_op rfl (fun K hK => ws_call hF rfl (by decide) cl140_or rfl rfl ?_)
      with_reducible refine (or_ahead_uint64 w0 w rb R A l c p 0 p hB hc hw hl hp).mono ?_
      rintro e' w' ⟨rfl, rfl⟩
      refine ⟨_, rfl, fun a hF => hK _ _ ?_⟩; clear hK K
      refine vc_y hF rfl rfl (by decide) _ (y_move rfl rfl) (fun a hF => ?_)
      refine vc_y hF rfl rfl (by decide) _ (y_extract rfl rfl rfl) (fun a hF => ?_)
      refine vc_y hF rfl rfl (by decide) _ (y_extract rfl rfl rfl) (fun a hF => ?_)
      refine vc_y hF rfl rfl (by decide) _ (y_extract rfl rfl rfl) (fun a hF => ?_)
      refine vc_y hF rfl rfl (by decide) _ (y_assign rfl rfl) (fun a hF => ?_)
      refine vc_y hF rfl rfl (by decide) _ (y_assign rfl rfl) (fun a hF => ?_)
      refine vc_y hF rfl rfl (by decide) _ (y_assign rfl rfl) (fun a hF => ?_)
      refine vc_nil ?_
      refine hK4 _ _ ?_; clear  hK4 K4
      apply wp_seq_k; intro K5 hK5
      apply wp_seq_k; intro K6 hK6
      refine wp_region_lit ?_
      refine vc_y hF rfl rfl (by decide) _ (y_move rfl rfl) (fun a hF => ?_)
      refine vc_y hF rfl rfl (by decide) _ (y_not rfl rfl rfl) (fun a hF => ?_)
      refine vc_nil ?_
      refine hK6 _ _ ?_; clear  hK6 K6
      refine vc_falseB hF rfl (by rw [ahOk, decide_eq_true hle]; rfl) ?_
      have hto : ahTo 8 l p = p + 8 := if_pos hle
      rw [hto] at hF
      apply wp_skip
      refine hK5 _ _ ?_; clear  hK5 K5
      apply wp_seq_k; intro K7 hK7
      refine wp_region_lit ?_
      refine vc_y hF rfl rfl (by decide) _ (y_move rfl rfl) (fun a hF => ?_)
      refine vc_y hF rfl rfl (by decide) _ (y_move rfl rfl) (fun a hF => ?_)
      refine vc_y hF rfl rfl (by decide) _ (y_nilCheck rfl rfl) (fun a hF => ?_)
      refine vc_y hF rfl rfl (by decide) _ (y_field rfl Tryz.underlying152 rfl sz3_or (by decide) rfl (rfl : (⟨_, 0 + _, none⟩ : Addr) = ⟨_, 1, none⟩)) (fun a hF => ?_)
      refine vc_op rfl (fun K hK => ws_store1 hF rfl rfl hw rfl rfl 0 rfl (by simp) rfl sz3_or (fun w2 hA2 => hK _ _ ?_))
      clear hK K
      replace hA2 : At w0 ((rb, 152, [.slice A l.length c, .int .i64 ((p + 8 : Nat) : Int), .int .i64 (0 : Int)]) :: R) w2 := hA2
      refine vc_nil ?_
      refine hK7 _ _ ?_; clear  hK7 K7
      apply wp_seq_k; intro K8 hK8
      refine wp_region_lit ?_
      refine vc_y hF rfl rfl (by decide) _ (y_move rfl rfl) (fun a hF => ?_)
      refine vc_y hF rfl rfl (by decide) _ (y_assign rfl rfl) (fun a hF => ?_)
      refine vc_nil ?_
      refine hK8 _ _ ?_; clear  hK8 K8
      apply wp_ret
      refine vc_ret1 hF Tryz.results80 rfl ?_
      exact ⟨rfl, hA2⟩
    · rw [show tkN 8 l p 0 = 0 from if_neg hle, show tkP 8 l p 0 = p from if_neg hle, show tkY 8 l p 0 = 8 from if_neg hle]
      refine vc_enter Tryz.func80 rfl Tryz.ntmps80 (Nat.le_of_ble_eq_true rfl) (fun a hF => ?_)
      apply wp_seq_k; intro K9 hK9
      refine wp_region_lit ?_
      refine vc_y hF rfl rfl (by decide) _ (y_assign rfl rfl) (fun a hF => ?_)
      refine vc_nil ?_
      refine hK9 _ _ ?_; clear  hK9 K9
      apply wp_seq_k; intro K10 hK10
      apply wp_seq_k; intro K11 hK11
      refine wp_region_lit ?_
      refine vc_y hF rfl rfl (by decide) _ (y_move rfl rfl) (fun a hF => ?_)
      refine vc_y hF rfl rfl (by decide) _ (y_eqNil rfl (by kernel_rfl) rfl rfl) (fun a hF => ?_)
      refine vc_y hF rfl rfl (by decide) _ (y_move rfl rfl) (fun a hF => ?_)
      refine vc_yg hF rfl rfl rfl rfl rfl (by decide) _ (y_move rfl rfl) (fun a hF => ?_)
      refine vc_yg hF rfl rfl rfl rfl rfl (by decide) _ (y_nilCheck rfl rfl) (fun a hF => ?_)
      refine vc_yg hF rfl rfl rfl rfl rfl (by decide) _ (y_field rfl Tryz.underlying152 rfl sz40_or (by decide) rfl (rfl : (⟨_, 0 + _, none⟩ : Addr) = ⟨_, 2, none⟩)) (fun a hF => ?_)
      refine vc_yg hF rfl rfl rfl rfl rfl (by decide) _ (y_loadAt rfl hw rfl 0 rfl rfl or_no57) (fun a hF => ?_)
      refine vc_yg hF rfl rfl rfl rfl rfl (by decide) _ (y_cmp (c := false) rfl rfl rfl rfl (neq_f rfl)) (fun a hF => ?_)
      refine vc_y hF rfl rfl (by decide) _ (y_pick rfl rfl rfl) (fun a hF => ?_)
      refine vc_nil ?_
      refine hK11 _ _ ?_; clear  hK11 K11
      refine vc_false hF rfl ?_
      apply wp_skip
      refine hK10 _ _ ?_; clear  hK10 K10
      apply wp_seq_k; intro K12 hK12
      refine wp_region_lit ?_
      refine vc_y hF rfl rfl (by decide) _ (y_move rfl rfl) (fun a hF => ?_)
      refine vc_y hF rfl rfl (by decide) _ (y_move rfl rfl) (fun a hF => ?_)
      refine vc_y hF rfl rfl (by decide) _ (y_nilCheck rfl rfl) (fun a hF => ?_)
      refine vc_y hF rfl rfl (by decide) _ (y_field rfl Tryz.underlying152 rfl sz3_or (by decide) rfl (rfl : (⟨_, 0 + _, none⟩ : Addr) = ⟨_, 1, none⟩)) (fun a hF => ?_)
      refine vc_y hF rfl rfl (by decide) _ (y_loadAt rfl hw rfl 0 rfl rfl or_no3) (fun a hF => ?_)
      refine vc_op rfl (fun K hK => ws_call hF rfl (by decide) cl140_or rfl rfl ?_)
      with_reducible refine (or_ahead_uint64 w0 w rb R A l c p 0 p hB hc hw hl hp).mono ?_
      rintro e' w' ⟨rfl, rfl⟩
      refine ⟨_, rfl, fun a hF => hK _ _ ?_⟩; clear hK K
      refine vc_y hF rfl rfl (by decide) _ (y_move rfl rfl) (fun a hF => ?_)
      refine vc_y hF rfl rfl (by decide) _ (y_extract rfl rfl rfl) (fun a hF => ?_)
      refine vc_y hF rfl rfl (by decide) _ (y_extract rfl rfl rfl) (fun a hF => ?_)
      refine vc_y hF rfl rfl (by decide) _ (y_extract rfl rfl rfl) (fun a hF => ?_)
      refine vc_y hF rfl rfl (by decide) _ (y_assign rfl rfl) (fun a hF => ?_)
      refine vc_y hF rfl rfl (by decide) _ (y_assign rfl rfl) (fun a hF => ?_)
      refine vc_y hF rfl rfl (by decide) _ (y_assign rfl rfl) (fun a hF => ?_)
      refine vc_nil ?_
      refine hK12 _ _ ?_; clear  hK12 K12
      apply wp_seq_k; intro K13 hK13
      apply wp_seq_k; intro K14 hK14
      refine wp_region_lit ?_
      refine vc_y hF rfl rfl (by decide) _ (y_move rfl rfl) (fun a hF => ?_)
      refine vc_y hF rfl rfl (by decide) _ (y_not rfl rfl rfl) (fun a hF => ?_)
      refine vc_nil ?_
      refine hK14 _ _ ?_; clear  hK14 K14
      refine vc_trueB hF rfl (by rw [ahOk, decide_eq_false hle]; rfl) ?_
      apply wp_seq_k; intro K15 hK15
      refine wp_region_lit ?_
      refine vc_y hF rfl rfl (by decide) _ (y_move rfl rfl) (fun a hF => ?_)
      refine vc_op rfl (fun K hK => ws_call hF rfl (by decide) cl97_or rfl rfl ?_)
      with_reducible refine (or_refuse w0 w rb R A l c p 0 8 8 rfl hw).mono ?_
      rintro e' w2 ⟨rfl, hA2⟩
      refine ⟨_, rfl, fun a hF => hK _ _ ?_⟩; clear hK K
      rw [if_pos rfl] at hA2
      refine vc_nil ?_
      refine hK15 _ _ ?_; clear  hK15 K15
      apply wp_seq_k; intro K16 hK16
      refine wp_region_lit ?_
      refine vc_y hF rfl rfl (by decide) _ (y_assign rfl rfl) (fun a hF => ?_)
      refine vc_nil ?_
      refine hK16 _ _ ?_; clear  hK16 K16
      apply wp_ret
      simp only [Exit.then]
      refine vc_ret1 hF Tryz.results80 rfl ?_
      exact ⟨rfl, hA2⟩
  · rw [show tkN 8 l p y = 0 from if_neg hy, show tkP 8 l p y = p from if_neg hy, show tkY 8 l p y = y from if_neg hy]
    refine vc_enter Tryz.func80 rfl Tryz.ntmps80 (Nat.le_of_ble_eq_true rfl) (fun a hF => ?_)
    apply wp_seq_k; intro K17 hK17
    refine wp_region_lit ?_
    refine vc_y hF rfl rfl (by decide) _ (y_assign rfl rfl) (fun a hF => ?_)
    refine vc_nil ?_
    refine hK17 _ _ ?_; clear  hK17 K17
    apply wp_seq_k; intro K18 hK18
    apply wp_seq_k; intro K19 hK19
    refine wp_region_lit ?_
    refine vc_y hF rfl rfl (by decide) _ (y_move rfl rfl) (fun a hF => ?_)
    refine vc_y hF rfl rfl (by decide) _ (y_eqNil rfl (by kernel_rfl) rfl rfl) (fun a hF => ?_)
    refine vc_y hF rfl rfl (by decide) _ (y_move rfl rfl) (fun a hF => ?_)
    refine vc_yg hF rfl rfl rfl rfl rfl (by decide) _ (y_move rfl rfl) (fun a hF => ?_)
    refine vc_yg hF rfl rfl rfl rfl rfl (by decide) _ (y_nilCheck rfl rfl) (fun a hF => ?_)
    refine vc_yg hF rfl rfl rfl rfl rfl (by decide) _ (y_field rfl Tryz.underlying152 rfl sz40_or (by decide) rfl (rfl : (⟨_, 0 + _, none⟩ : Addr) = ⟨_, 2, none⟩)) (fun a hF => ?_)
    refine vc_yg hF rfl rfl rfl rfl rfl (by decide) _ (y_loadAt rfl hw rfl 0 rfl rfl or_no57) (fun a hF => ?_)
    refine vc_yg hF rfl rfl rfl rfl rfl (by decide) _ (y_cmp (c := true) rfl rfl rfl rfl (neq_t (by omega))) (fun a hF => ?_)
    refine vc_y hF rfl rfl (by decide) _ (y_pick rfl rfl rfl) (fun a hF => ?_)
    refine vc_nil ?_
    refine hK19 _ _ ?_; clear  hK19 K19
    refine vc_true hF rfl ?_
    apply wp_seq_k; intro K20 hK20
    refine wp_region_lit ?_
    refine vc_y hF rfl rfl (by decide) _ (y_assign rfl rfl) (fun a hF => ?_)
    refine vc_nil ?_
    refine hK20 _ _ ?_; clear  hK20 K20
    apply wp_ret
    simp only [Exit.then]
    refine vc_ret1 hF Tryz.results80 rfl ?_
    exact ⟨rfl, hw⟩

set_option maxRecDepth 100000 in
set_option maxHeartbeats 1000000 in
theorem or_left (w0 w : World) (rb : Nat) (R : List Row) (A : Option Addr) (l : List UInt8) (c p y : Nat) (hw : At w0 ((rb, 152, [.slice A l.length c, .int .i64 (p : Int), .int .i64 (y : Int)]) :: R) w) (hp : p ≤ l.length) (hl : l.length < 140737488354000) : Calls Tryz.prog 52 #[.pointer (some ⟨rb, 0, none⟩)] w fun e w' => e = .returned (.int .i64 ((l.length - p : Nat) : Int)) ∧ At w0 ((rb, 152, [.slice A l.length c, .int .i64 (p : Int), .int .i64 (y : Int)]) :: R) w' := by
  refine vc_enter Tryz.func52 rfl Tryz.ntmps52 (Nat.le_of_ble_eq_true rfl) (fun a hF => ?_)
  apply wp_seq_k; intro K1 hK1
  refine wp_region_lit ?_
  refine vc_y hF rfl rfl (by decide) _ (y_assign rfl rfl) (fun a hF => ?_)
  refine vc_nil ?_
  refine hK1 _ _ ?_; clear  hK1 K1
  apply wp_seq_k; intro K2 hK2
  refine wp_region_plan 10 [10] [0,1,2,3,4,5,6,7,8,9,10] (fun x => At w0 ((rb, 152, [.slice A l.length c, .int .i64 (p : Int), .int .i64 (y : Int)]) :: R) x) (by kernel_rfl) (by kernel_rfl) (hw.drew) ?_
  refine vp_y hF rfl rfl rfl rfl (by decide) _ (fun x hx => y_move rfl rfl) (fun a hF => ?_)
  refine vp_y hF rfl rfl rfl rfl (by decide) _ (fun x hx => y_nilCheck rfl rfl) (fun a hF => ?_)
  refine vp_y hF rfl rfl rfl rfl (by decide) _ (fun x hx => y_field rfl Tryz.underlying152 rfl sz27_or (by decide) rfl (rfl : (⟨_, 0 + _, none⟩ : Addr) = ⟨_, 0, none⟩)) (fun a hF => ?_)
  refine vp_y hF rfl rfl rfl rfl (by decide) _ (fun x hx => y_loadAt rfl hx rfl 0 rfl rfl ow_no24) (fun a hF => ?_)
  refine vp_y hF rfl rfl rfl rfl (by decide) _ (fun x hx => y_lenSl rfl Tryz.underlying27 rfl rfl) (fun a hF => ?_)
  refine vp_y hF rfl rfl rfl rfl (by decide) _ (fun x hx => y_move rfl rfl) (fun a hF => ?_)
  refine vp_y hF rfl rfl rfl rfl (by decide) _ (fun x hx => y_nilCheck rfl rfl) (fun a hF => ?_)
  refine vp_y hF rfl rfl rfl rfl (by decide) _ (fun x hx => y_field rfl Tryz.underlying152 rfl sz3_or (by decide) rfl (rfl : (⟨_, 0 + _, none⟩ : Addr) = ⟨_, 1, none⟩)) (fun a hF => ?_)
  refine vp_y hF rfl rfl rfl rfl (by decide) _ (fun x hx => y_loadAt rfl hx rfl 0 rfl rfl or_no3) (fun a hF => ?_)
  refine vp_y hF rfl rfl rfl rfl (by decide) _ (fun x hx => y_sub rfl rfl rfl (show IntKind.i64.wrap ((l.length : Int) - (p : Int)) = ((l.length - p : Nat) : Int) by rw [IntWalk.i64_in _ (by omega)]; omega)) (fun a hF => ?_)
  refine vp_ly hF rfl rfl rfl rfl (by decide) _ (y_assign rfl rfl) (fun h => absurd h (by decide)) (fun a hF => ?_)
  refine plan_end ?_
  refine hK2 _ _ ?_; clear  hK2 K2
  apply wp_ret
  refine vc_ret1 hF Tryz.results52 rfl ?_
  exact ⟨rfl, hw.drew⟩

set_option maxRecDepth 100000 in
set_option maxHeartbeats 1000000 in
theorem or_why (w0 w : World) (rb : Nat) (R : List Row) (A : Option Addr) (l : List UInt8) (c p y : Nat) (hw : At w0 ((rb, 152, [.slice A l.length c, .int .i64 (p : Int), .int .i64 (y : Int)]) :: R) w) : Calls Tryz.prog 53 #[.pointer (some ⟨rb, 0, none⟩)] w fun e w' => e = .returned (.int .i64 (y : Int)) ∧ At w0 ((rb, 152, [.slice A l.length c, .int .i64 (p : Int), .int .i64 (y : Int)]) :: R) w' := by
  refine vc_enter Tryz.func53 rfl Tryz.ntmps53 (Nat.le_of_ble_eq_true rfl) (fun a hF => ?_)
  apply wp_seq_k; intro K1 hK1
  refine wp_region_lit ?_
  refine vc_y hF rfl rfl (by decide) _ (y_assign rfl rfl) (fun a hF => ?_)
  refine vc_nil ?_
  refine hK1 _ _ ?_; clear  hK1 K1
  apply wp_seq_k; intro K2 hK2
  refine wp_region_lit ?_
  refine vc_y hF rfl rfl (by decide) _ (y_move rfl rfl) (fun a hF => ?_)
  refine vc_y hF rfl rfl (by decide) _ (y_nilCheck rfl rfl) (fun a hF => ?_)
  refine vc_y hF rfl rfl (by decide) _ (y_field rfl Tryz.underlying152 rfl sz40_or (by decide) rfl (rfl : (⟨_, 0 + _, none⟩ : Addr) = ⟨_, 2, none⟩)) (fun a hF => ?_)
  refine vc_y hF rfl rfl (by decide) _ (y_loadAt rfl hw rfl 0 rfl rfl or_no57) (fun a hF => ?_)
  refine vc_y hF rfl rfl (by decide) _ (y_assign rfl rfl) (fun a hF => ?_)
  refine vc_nil ?_
  refine hK2 _ _ ?_; clear  hK2 K2
  apply wp_ret
  refine vc_ret1 hF Tryz.results53 rfl ?_
  exact ⟨rfl, hw⟩

set_option maxRecDepth 100000 in
set_option maxHeartbeats 1000000 in
theorem or_done (w0 w : World) (rb : Nat) (R : List Row) (A : Option Addr) (l : List UInt8) (c p y : Nat) (hw : At w0 ((rb, 152, [.slice A l.length c, .int .i64 (p : Int), .int .i64 (y : Int)]) :: R) w) (hp : p ≤ l.length) (hl : l.length < 140737488354000) : Calls Tryz.prog 84 #[.pointer (some ⟨rb, 0, none⟩)] w fun e w' => e = .returned (.int .i64 ((if y = 0 ∧ p < l.length then 8 else y : Nat) : Int)) ∧ At w0 ((rb, 152, [.slice A l.length c, .int .i64 (p : Int), .int .i64 (y : Int)]) :: R) w' := by
  by_cases hy : y = 0
  · subst hy
    by_cases hg : p < l.length
    · rw [if_pos ⟨rfl, hg⟩]
      refine vc_enter Tryz.func84 rfl Tryz.ntmps84 (Nat.le_of_ble_eq_true rfl) (fun a hF => ?_)
      apply wp_seq_k; intro K1 hK1
      refine wp_region_lit ?_
      refine vc_y hF rfl rfl (by decide) _ (y_assign rfl rfl) (fun a hF => ?_)
      refine vc_nil ?_
      refine hK1 _ _ ?_; clear  hK1 K1
      apply wp_seq_k; intro K2 hK2
      apply wp_seq_k; intro K3 hK3
      refine wp_region_lit ?_
      refine vc_y hF rfl rfl (by decide) _ (y_move rfl rfl) (fun a hF => ?_)
      refine vc_y hF rfl rfl (by decide) _ (y_nilCheck rfl rfl) (fun a hF => ?_)
      refine vc_y hF rfl rfl (by decide) _ (y_field rfl Tryz.underlying152 rfl sz40_or (by decide) rfl (rfl : (⟨_, 0 + _, none⟩ : Addr) = ⟨_, 2, none⟩)) (fun a hF => ?_)
      refine vc_y hF rfl rfl (by decide) _ (y_loadAt rfl hw rfl 0 rfl rfl or_no57) (fun a hF => ?_)
      refine vc_y hF rfl rfl (by decide) _ (y_cmp (c := true) rfl rfl rfl rfl rfl) (fun a hF => ?_)
      refine vc_y hF rfl rfl (by decide) _ (y_move rfl rfl) (fun a hF => ?_)
      refine vc_yg hF rfl rfl rfl rfl rfl (by decide) _ (y_move rfl rfl) (fun a hF => ?_)
      refine vc_opg hF rfl rfl rfl rfl (fun K hK => ws_call hF rfl (by decide) cl52_or rfl rfl ?_)
      with_reducible refine (or_left w0 w rb R A l c p 0 hw hp hl).mono ?_
      rintro e' w2 ⟨rfl, hA2⟩
      refine ⟨_, rfl, fun a hF => hK _ _ ?_⟩; clear hK K
      refine vc_yg hF rfl rfl rfl rfl rfl (by decide) _ (y_cmp (c := true) rfl rfl rfl rfl (gtr_t (by omega))) (fun a hF => ?_)
      refine vc_y hF rfl rfl (by decide) _ (y_pick rfl rfl rfl) (fun a hF => ?_)
      refine vc_nil ?_
      refine hK3 _ _ ?_; clear  hK3 K3
      refine vc_true hF rfl ?_
      apply wp_seq_k; intro K4 hK4
      refine wp_region_lit ?_
      refine vc_y hF rfl rfl (by decide) _ (y_assign rfl rfl) (fun a hF => ?_)
      refine vc_nil ?_
      refine hK4 _ _ ?_; clear  hK4 K4
      apply wp_ret
      simp only [Exit.then]
      refine vc_ret1 hF Tryz.results84 rfl ?_
      exact ⟨rfl, hA2⟩
    · rw [if_neg (fun h => hg h.2)]
      refine vc_enter Tryz.func84 rfl Tryz.ntmps84 (Nat.le_of_ble_eq_true rfl) (fun a hF => ?_)
      apply wp_seq_k; intro K5 hK5
      refine wp_region_lit ?_
      refine vc_y hF rfl rfl (by decide) _ (y_assign rfl rfl) (fun a hF => ?_)
      refine vc_nil ?_
      refine hK5 _ _ ?_; clear  hK5 K5
      apply wp_seq_k; intro K6 hK6
      apply wp_seq_k; intro K7 hK7
      refine wp_region_lit ?_
      refine vc_y hF rfl rfl (by decide) _ (y_move rfl rfl) (fun a hF => ?_)
      refine vc_y hF rfl rfl (by decide) _ (y_nilCheck rfl rfl) (fun a hF => ?_)
      refine vc_y hF rfl rfl (by decide) _ (y_field rfl Tryz.underlying152 rfl sz40_or (by decide) rfl (rfl : (⟨_, 0 + _, none⟩ : Addr) = ⟨_, 2, none⟩)) (fun a hF => ?_)
      refine vc_y hF rfl rfl (by decide) _ (y_loadAt rfl hw rfl 0 rfl rfl or_no57) (fun a hF => ?_)
      refine vc_y hF rfl rfl (by decide) _ (y_cmp (c := true) rfl rfl rfl rfl rfl) (fun a hF => ?_)
      refine vc_y hF rfl rfl (by decide) _ (y_move rfl rfl) (fun a hF => ?_)
      refine vc_yg hF rfl rfl rfl rfl rfl (by decide) _ (y_move rfl rfl) (fun a hF => ?_)
      refine vc_opg hF rfl rfl rfl rfl (fun K hK => ws_call hF rfl (by decide) cl52_or rfl rfl ?_)
      with_reducible refine (or_left w0 w rb R A l c p 0 hw hp hl).mono ?_
      rintro e' w2 ⟨rfl, hA2⟩
      refine ⟨_, rfl, fun a hF => hK _ _ ?_⟩; clear hK K
      refine vc_yg hF rfl rfl rfl rfl rfl (by decide) _ (y_cmp (c := false) rfl rfl rfl rfl (gtr_f (by omega))) (fun a hF => ?_)
      refine vc_y hF rfl rfl (by decide) _ (y_pick rfl rfl rfl) (fun a hF => ?_)
      refine vc_nil ?_
      refine hK7 _ _ ?_; clear  hK7 K7
      refine vc_false hF rfl ?_
      apply wp_skip
      refine hK6 _ _ ?_; clear  hK6 K6
      apply wp_seq_k; intro K8 hK8
      refine wp_region_lit ?_
      refine vc_y hF rfl rfl (by decide) _ (y_move rfl rfl) (fun a hF => ?_)
      refine vc_y hF rfl rfl (by decide) _ (y_nilCheck rfl rfl) (fun a hF => ?_)
      refine vc_y hF rfl rfl (by decide) _ (y_field rfl Tryz.underlying152 rfl sz40_or (by decide) rfl (rfl : (⟨_, 0 + _, none⟩ : Addr) = ⟨_, 2, none⟩)) (fun a hF => ?_)
      refine vc_y hF rfl rfl (by decide) _ (y_loadAt rfl hA2 rfl 0 rfl rfl or_no57) (fun a hF => ?_)
      refine vc_y hF rfl rfl (by decide) _ (y_assign rfl rfl) (fun a hF => ?_)
      refine vc_nil ?_
      refine hK8 _ _ ?_; clear  hK8 K8
      apply wp_ret
      refine vc_ret1 hF Tryz.results84 rfl ?_
      exact ⟨rfl, hA2⟩
  · rw [if_neg (fun h => hy h.1)]
    refine vc_enter Tryz.func84 rfl Tryz.ntmps84 (Nat.le_of_ble_eq_true rfl) (fun a hF => ?_)
    apply wp_seq_k; intro K9 hK9
    refine wp_region_lit ?_
    refine vc_y hF rfl rfl (by decide) _ (y_assign rfl rfl) (fun a hF => ?_)
    refine vc_nil ?_
    refine hK9 _ _ ?_; clear  hK9 K9
    apply wp_seq_k; intro K10 hK10
    apply wp_seq_k; intro K11 hK11
    refine wp_region_lit ?_
    refine vc_y hF rfl rfl (by decide) _ (y_move rfl rfl) (fun a hF => ?_)
    refine vc_y hF rfl rfl (by decide) _ (y_nilCheck rfl rfl) (fun a hF => ?_)
    refine vc_y hF rfl rfl (by decide) _ (y_field rfl Tryz.underlying152 rfl sz40_or (by decide) rfl (rfl : (⟨_, 0 + _, none⟩ : Addr) = ⟨_, 2, none⟩)) (fun a hF => ?_)
    refine vc_y hF rfl rfl (by decide) _ (y_loadAt rfl hw rfl 0 rfl rfl or_no57) (fun a hF => ?_)
    refine vc_y hF rfl rfl (by decide) _ (y_cmp (c := false) rfl rfl rfl rfl (eql_f (by omega))) (fun a hF => ?_)
    refine vc_y hF rfl rfl (by decide) _ (y_move rfl rfl) (fun a hF => ?_)
    refine vc_skip hF rfl rfl rfl rfl rfl rfl (by decide) (fun a hF => ?_)
    refine vc_skip hF rfl rfl rfl rfl rfl rfl (by decide) (fun a hF => ?_)
    refine vc_skip hF rfl rfl rfl rfl rfl rfl (by decide) (fun a hF => ?_)
    refine vc_y hF rfl rfl (by decide) _ (y_pick rfl rfl rfl) (fun a hF => ?_)
    refine vc_nil ?_
    refine hK11 _ _ ?_; clear  hK11 K11
    refine vc_false hF rfl ?_
    apply wp_skip
    refine hK10 _ _ ?_; clear  hK10 K10
    apply wp_seq_k; intro K12 hK12
    refine wp_region_lit ?_
    refine vc_y hF rfl rfl (by decide) _ (y_move rfl rfl) (fun a hF => ?_)
    refine vc_y hF rfl rfl (by decide) _ (y_nilCheck rfl rfl) (fun a hF => ?_)
    refine vc_y hF rfl rfl (by decide) _ (y_field rfl Tryz.underlying152 rfl sz40_or (by decide) rfl (rfl : (⟨_, 0 + _, none⟩ : Addr) = ⟨_, 2, none⟩)) (fun a hF => ?_)
    refine vc_y hF rfl rfl (by decide) _ (y_loadAt rfl hw rfl 0 rfl rfl or_no57) (fun a hF => ?_)
    refine vc_y hF rfl rfl (by decide) _ (y_assign rfl rfl) (fun a hF => ?_)
    refine vc_nil ?_
    refine hK12 _ _ ?_; clear  hK12 K12
    apply wp_ret
    refine vc_ret1 hF Tryz.results84 rfl ?_
    exact ⟨rfl, hw⟩

theorem or_flag_eq (n : Nat) : cmpB .eql (n : Int) 1 = (n == 1) := by
  rw [cmpB]; by_cases h : n = 1
  · subst h; rfl
  · rw [beq_eq_false_iff_ne.2 h]; exact beq_eq_false_iff_ne.2 (by omega)

set_option maxRecDepth 100000 in
set_option maxHeartbeats 1000000 in
theorem or_flag (w0 w : World) (rb : Nat) (R : List Row) (A : Option Addr) (l : List UInt8) (c p y : Nat) (hB : ∀ (v : List Value) (x : World), At w0 ((rb, 152, v) :: R) x → Bts x A l) (hc : l.length ≤ c) (hw : At w0 ((rb, 152, [.slice A l.length c, .int .i64 (p : Int), .int .i64 (y : Int)]) :: R) w) (hp : p ≤ l.length) (hl : l.length < 140737488354000) : Calls Tryz.prog 99 #[.pointer (some ⟨rb, 0, none⟩)] w fun e w' => e = .returned (.bool (flB l p y)) ∧ At w0 ((rb, 152, [.slice A l.length c, .int .i64 ((flP l p y : Nat) : Int), .int .i64 ((flY l p y : Nat) : Int)]) :: R) w' := by
  by_cases hy : y = 0
  · subst hy
    by_cases hle : p + 1 ≤ l.length
    · have hok : ahOk 1 l p = true := decide_eq_true hle
      have hto : ahTo 1 l p = p + 1 := if_pos hle
      by_cases h1 : ahN 1 l p ≤ 1
      · have hfl : flOk l p = true := by rw [flOk, hok, decide_eq_true h1]; rfl
        refine vc_enter Tryz.func99 rfl Tryz.ntmps99 (Nat.le_of_ble_eq_true rfl) (fun a hF => ?_)
        apply wp_seq_k; intro K1 hK1
        refine wp_region_lit ?_
        refine vc_y hF rfl rfl (by decide) _ (y_assign rfl rfl) (fun a hF => ?_)
        refine vc_nil ?_
        refine hK1 _ _ ?_; clear  hK1 K1
        apply wp_seq_k; intro K2 hK2
        apply wp_seq_k; intro K3 hK3
        refine wp_region_lit ?_
        refine vc_y hF rfl rfl (by decide) _ (y_move rfl rfl) (fun a hF => ?_)
        refine vc_y hF rfl rfl (by decide) _ (y_nilCheck rfl rfl) (fun a hF => ?_)
        refine vc_y hF rfl rfl (by decide) _ (y_field rfl Tryz.underlying152 rfl sz40_or (by decide) rfl (rfl : (⟨_, 0 + _, none⟩ : Addr) = ⟨_, 2, none⟩)) (fun a hF => ?_)
        refine vc_y hF rfl rfl (by decide) _ (y_loadAt rfl hw rfl 0 rfl rfl or_no57) (fun a hF => ?_)
        refine vc_y hF rfl rfl (by decide) _ (y_cmp (c := false) rfl rfl rfl rfl (neq_f rfl)) (fun a hF => ?_)
        refine vc_nil ?_
        refine hK3 _ _ ?_; clear  hK3 K3
        refine vc_false hF rfl ?_
        apply wp_skip
        refine hK2 _ _ ?_; clear  hK2 K2
        apply wp_seq_k; intro K4 hK4
        refine wp_region_lit ?_
        refine vc_y hF rfl rfl (by decide) _ (y_move rfl rfl) (fun a hF => ?_)
        refine vc_y hF rfl rfl (by decide) _ (y_move rfl rfl) (fun a hF => ?_)
        refine vc_y hF rfl rfl (by decide) _ (y_nilCheck rfl rfl) (fun a hF => ?_)
        refine vc_y hF rfl rfl (by decide) _ (y_field rfl Tryz.underlying152 rfl sz3_or (by decide) rfl (rfl : (⟨_, 0 + _, none⟩ : Addr) = ⟨_, 1, none⟩)) (fun a hF => ?_)
        refine vc_y hF rfl rfl (by decide) _ (y_loadAt rfl hw rfl 0 rfl rfl or_no3) (fun a hF => ?_)
        refine vc_op rfl (fun K hK => ws_call hF rfl (by decide) cl96_or rfl rfl ?_)
        with_reducible refine (or_ahead_uint8 w0 w rb R A l c p 0 p hB hc hw hl hp).mono ?_
        rintro e' w' ⟨rfl, rfl⟩
        refine ⟨_, rfl, fun a hF => hK _ _ ?_⟩; clear hK K
        rw [hok, hto] at hF
        refine vc_y hF rfl rfl (by decide) _ (y_move rfl rfl) (fun a hF => ?_)
        refine vc_y hF rfl rfl (by decide) _ (y_extract rfl rfl rfl) (fun a hF => ?_)
        refine vc_y hF rfl rfl (by decide) _ (y_extract rfl rfl rfl) (fun a hF => ?_)
        refine vc_y hF rfl rfl (by decide) _ (y_extract rfl rfl rfl) (fun a hF => ?_)
        refine vc_y hF rfl rfl (by decide) _ (y_assign rfl rfl) (fun a hF => ?_)
        refine vc_y hF rfl rfl (by decide) _ (y_assign rfl rfl) (fun a hF => ?_)
        refine vc_y hF rfl rfl (by decide) _ (y_assign rfl rfl) (fun a hF => ?_)
        refine vc_nil ?_
        refine hK4 _ _ ?_; clear  hK4 K4
        apply wp_seq_k; intro K5 hK5
        apply wp_seq_k; intro K6 hK6
        refine wp_region_lit ?_
        refine vc_y hF rfl rfl (by decide) _ (y_move rfl rfl) (fun a hF => ?_)
        refine vc_y hF rfl rfl (by decide) _ (y_not rfl rfl rfl) (fun a hF => ?_)
        refine vc_y hF rfl rfl (by decide) _ (y_move rfl rfl) (fun a hF => ?_)
        refine vc_yg hF rfl rfl rfl rfl rfl (by decide) _ (y_move rfl rfl) (fun a hF => ?_)
        refine vc_yg hF rfl rfl rfl rfl rfl (by decide) _ (y_cmp (c := false) rfl rfl rfl rfl (gtr_f (by omega))) (fun a hF => ?_)
        refine vc_y hF rfl rfl (by decide) _ (y_pick rfl rfl rfl) (fun a hF => ?_)
        refine vc_nil ?_
        refine hK6 _ _ ?_; clear  hK6 K6
        refine vc_false hF rfl ?_
        apply wp_skip
        refine hK5 _ _ ?_; clear  hK5 K5
        apply wp_seq_k; intro K7 hK7
        refine wp_region_lit ?_
        refine vc_y hF rfl rfl (by decide) _ (y_move rfl rfl) (fun a hF => ?_)
        refine vc_y hF rfl rfl (by decide) _ (y_move rfl rfl) (fun a hF => ?_)
        refine vc_y hF rfl rfl (by decide) _ (y_nilCheck rfl rfl) (fun a hF => ?_)
        refine vc_y hF rfl rfl (by decide) _ (y_field rfl Tryz.underlying152 rfl sz3_or (by decide) rfl (rfl : (⟨_, 0 + _, none⟩ : Addr) = ⟨_, 1, none⟩)) (fun a hF => ?_)
        refine vc_op rfl (fun K hK => ws_store1 hF rfl rfl hw rfl rfl 0 rfl (by simp) rfl sz3_or (fun w2 hA2 => hK _ _ ?_))
        clear hK K
        replace hA2 : At w0 ((rb, 152, [.slice A l.length c, .int .i64 ((p + 1 : Nat) : Int), .int .i64 (0 : Int)]) :: R) w2 := hA2
        refine vc_nil ?_
        refine hK7 _ _ ?_; clear  hK7 K7
        apply wp_seq_k; intro K8 hK8
        refine wp_region_lit ?_
        refine vc_y hF rfl rfl (by decide) _ (y_move rfl rfl) (fun a hF => ?_)
        refine vc_y hF rfl rfl (by decide) _ (y_cmp (c := (ahN 1 l p == 1)) rfl rfl rfl rfl (or_flag_eq _)) (fun a hF => ?_)
        refine vc_y hF rfl rfl (by decide) _ (y_assign rfl rfl) (fun a hF => ?_)
        refine vc_nil ?_
        refine hK8 _ _ ?_; clear  hK8 K8
        apply wp_ret
        refine vc_ret1 hF Tryz.results99 rfl ?_
        exact ⟨rfl, by rw [flP, flY, if_pos ⟨rfl, hfl⟩, if_pos rfl, if_pos hfl]; exact hA2⟩
      · have hfl : ¬(flOk l p = true) := by rw [flOk, decide_eq_false h1, Bool.and_false]; decide
        refine vc_enter Tryz.func99 rfl Tryz.ntmps99 (Nat.le_of_ble_eq_true rfl) (fun a hF => ?_)
        apply wp_seq_k; intro K9 hK9
        refine wp_region_lit ?_
        refine vc_y hF rfl rfl (by decide) _ (y_assign rfl rfl) (fun a hF => ?_)
        refine vc_nil ?_
        refine hK9 _ _ ?_; clear  hK9 K9
        apply wp_seq_k; intro K10 hK10
        apply wp_seq_k; intro K11 hK11
        refine wp_region_lit ?_
        refine vc_y hF rfl rfl (by decide) _ (y_move rfl rfl) (fun a hF => ?_)
        refine vc_y hF rfl rfl (by decide) _ (y_nilCheck rfl rfl) (fun a hF => ?_)
        refine vc_y hF rfl rfl (by decide) _ (y_field rfl Tryz.underlying152 rfl sz40_or (by decide) rfl (rfl : (⟨_, 0 + _, none⟩ : Addr) = ⟨_, 2, none⟩)) (fun a hF => ?_)
        refine vc_y hF rfl rfl (by decide) _ (y_loadAt rfl hw rfl 0 rfl rfl or_no57) (fun a hF => ?_)
        refine vc_y hF rfl rfl (by decide) _ (y_cmp (c := false) rfl rfl rfl rfl (neq_f rfl)) (fun a hF => ?_)
        refine vc_nil ?_
        refine hK11 _ _ ?_; clear  hK11 K11
        refine vc_false hF rfl ?_
        apply wp_skip
        refine hK10 _ _ ?_; clear  hK10 K10
        apply wp_seq_k; intro K12 hK12
        refine wp_region_lit ?_
        refine vc_y hF rfl rfl (by decide) _ (y_move rfl rfl) (fun a hF => ?_)
        refine vc_y hF rfl rfl (by decide) _ (y_move rfl rfl) (fun a hF => ?_)
        refine vc_y hF rfl rfl (by decide) _ (y_nilCheck rfl rfl) (fun a hF => ?_)
        refine vc_y hF rfl rfl (by decide) _ (y_field rfl Tryz.underlying152 rfl sz3_or (by decide) rfl (rfl : (⟨_, 0 + _, none⟩ : Addr) = ⟨_, 1, none⟩)) (fun a hF => ?_)
        refine vc_y hF rfl rfl (by decide) _ (y_loadAt rfl hw rfl 0 rfl rfl or_no3) (fun a hF => ?_)
        refine vc_op rfl (fun K hK => ws_call hF rfl (by decide) cl96_or rfl rfl ?_)
        with_reducible refine (or_ahead_uint8 w0 w rb R A l c p 0 p hB hc hw hl hp).mono ?_
        rintro e' w' ⟨rfl, rfl⟩
        refine ⟨_, rfl, fun a hF => hK _ _ ?_⟩; clear hK K
        rw [hok, hto] at hF
        refine vc_y hF rfl rfl (by decide) _ (y_move rfl rfl) (fun a hF => ?_)
        refine vc_y hF rfl rfl (by decide) _ (y_extract rfl rfl rfl) (fun a hF => ?_)
        refine vc_y hF rfl rfl (by decide) _ (y_extract rfl rfl rfl) (fun a hF => ?_)
        refine vc_y hF rfl rfl (by decide) _ (y_extract rfl rfl rfl) (fun a hF => ?_)
        refine vc_y hF rfl rfl (by decide) _ (y_assign rfl rfl) (fun a hF => ?_)
        refine vc_y hF rfl rfl (by decide) _ (y_assign rfl rfl) (fun a hF => ?_)
        refine vc_y hF rfl rfl (by decide) _ (y_assign rfl rfl) (fun a hF => ?_)
        refine vc_nil ?_
        refine hK12 _ _ ?_; clear  hK12 K12
        apply wp_seq_k; intro K13 hK13
        apply wp_seq_k; intro K14 hK14
        refine wp_region_lit ?_
        refine vc_y hF rfl rfl (by decide) _ (y_move rfl rfl) (fun a hF => ?_)
        refine vc_y hF rfl rfl (by decide) _ (y_not rfl rfl rfl) (fun a hF => ?_)
        refine vc_y hF rfl rfl (by decide) _ (y_move rfl rfl) (fun a hF => ?_)
        refine vc_yg hF rfl rfl rfl rfl rfl (by decide) _ (y_move rfl rfl) (fun a hF => ?_)
        refine vc_yg hF rfl rfl rfl rfl rfl (by decide) _ (y_cmp (c := true) rfl rfl rfl rfl (gtr_t (by omega))) (fun a hF => ?_)
        refine vc_y hF rfl rfl (by decide) _ (y_pick rfl rfl rfl) (fun a hF => ?_)
        refine vc_nil ?_
        refine hK14 _ _ ?_; clear  hK14 K14
        refine vc_true hF rfl ?_
        apply wp_seq_k; intro K15 hK15
        refine wp_region_lit ?_
        refine vc_y hF rfl rfl (by decide) _ (y_move rfl rfl) (fun a hF => ?_)
        refine vc_op rfl (fun K hK => ws_call hF rfl (by decide) cl97_or rfl rfl ?_)
        with_reducible refine (or_refuse w0 w rb R A l c p 0 8 8 rfl hw).mono ?_
        rintro e' w2 ⟨rfl, hA2⟩
        refine ⟨_, rfl, fun a hF => hK _ _ ?_⟩; clear hK K
        rw [if_pos rfl] at hA2
        refine vc_nil ?_
        refine hK15 _ _ ?_; clear  hK15 K15
        apply wp_seq_k; intro K16 hK16
        refine wp_region_lit ?_
        refine vc_y hF rfl rfl (by decide) _ (y_assign rfl rfl) (fun a hF => ?_)
        refine vc_nil ?_
        refine hK16 _ _ ?_; clear  hK16 K16
        apply wp_ret
        simp only [Exit.then]
        refine vc_ret1 hF Tryz.results99 rfl ?_
        exact ⟨by rw [flB, show (ahN 1 l p == 1) = false from beq_eq_false_iff_ne.2 (by omega), Bool.and_false], by rw [flP, flY, if_neg (fun h => hfl h.2), if_pos rfl, if_neg hfl]; exact hA2⟩
    · have hok : ahOk 1 l p = false := decide_eq_false hle
      have hto : ahTo 1 l p = p := if_neg hle
      have hfl : ¬(flOk l p = true) := by rw [flOk, hok, Bool.false_and]; decide
      refine vc_enter Tryz.func99 rfl Tryz.ntmps99 (Nat.le_of_ble_eq_true rfl) (fun a hF => ?_)
      apply wp_seq_k; intro K17 hK17
      refine wp_region_lit ?_
      refine vc_y hF rfl rfl (by decide) _ (y_assign rfl rfl) (fun a hF => ?_)
      refine vc_nil ?_
      refine hK17 _ _ ?_; clear  hK17 K17
      apply wp_seq_k; intro K18 hK18
      apply wp_seq_k; intro K19 hK19
      refine wp_region_lit ?_
      refine vc_y hF rfl rfl (by decide) _ (y_move rfl rfl) (fun a hF => ?_)
      refine vc_y hF rfl rfl (by decide) _ (y_nilCheck rfl rfl) (fun a hF => ?_)
      refine vc_y hF rfl rfl (by decide) _ (y_field rfl Tryz.underlying152 rfl sz40_or (by decide) rfl (rfl : (⟨_, 0 + _, none⟩ : Addr) = ⟨_, 2, none⟩)) (fun a hF => ?_)
      refine vc_y hF rfl rfl (by decide) _ (y_loadAt rfl hw rfl 0 rfl rfl or_no57) (fun a hF => ?_)
      refine vc_y hF rfl rfl (by decide) _ (y_cmp (c := false) rfl rfl rfl rfl (neq_f rfl)) (fun a hF => ?_)
      refine vc_nil ?_
      refine hK19 _ _ ?_; clear  hK19 K19
      refine vc_false hF rfl ?_
      apply wp_skip
      refine hK18 _ _ ?_; clear  hK18 K18
      apply wp_seq_k; intro K20 hK20
      refine wp_region_lit ?_
      refine vc_y hF rfl rfl (by decide) _ (y_move rfl rfl) (fun a hF => ?_)
      refine vc_y hF rfl rfl (by decide) _ (y_move rfl rfl) (fun a hF => ?_)
      refine vc_y hF rfl rfl (by decide) _ (y_nilCheck rfl rfl) (fun a hF => ?_)
      refine vc_y hF rfl rfl (by decide) _ (y_field rfl Tryz.underlying152 rfl sz3_or (by decide) rfl (rfl : (⟨_, 0 + _, none⟩ : Addr) = ⟨_, 1, none⟩)) (fun a hF => ?_)
      refine vc_y hF rfl rfl (by decide) _ (y_loadAt rfl hw rfl 0 rfl rfl or_no3) (fun a hF => ?_)
      refine vc_op rfl (fun K hK => ws_call hF rfl (by decide) cl96_or rfl rfl ?_)
      with_reducible refine (or_ahead_uint8 w0 w rb R A l c p 0 p hB hc hw hl hp).mono ?_
      rintro e' w' ⟨rfl, rfl⟩
      refine ⟨_, rfl, fun a hF => hK _ _ ?_⟩; clear hK K
      rw [hok, hto] at hF
      refine vc_y hF rfl rfl (by decide) _ (y_move rfl rfl) (fun a hF => ?_)
      refine vc_y hF rfl rfl (by decide) _ (y_extract rfl rfl rfl) (fun a hF => ?_)
      refine vc_y hF rfl rfl (by decide) _ (y_extract rfl rfl rfl) (fun a hF => ?_)
      refine vc_y hF rfl rfl (by decide) _ (y_extract rfl rfl rfl) (fun a hF => ?_)
      refine vc_y hF rfl rfl (by decide) _ (y_assign rfl rfl) (fun a hF => ?_)
      refine vc_y hF rfl rfl (by decide) _ (y_assign rfl rfl) (fun a hF => ?_)
      refine vc_y hF rfl rfl (by decide) _ (y_assign rfl rfl) (fun a hF => ?_)
      refine vc_nil ?_
      refine hK20 _ _ ?_; clear  hK20 K20
      apply wp_seq_k; intro K21 hK21
      apply wp_seq_k; intro K22 hK22
      refine wp_region_lit ?_
      refine vc_y hF rfl rfl (by decide) _ (y_move rfl rfl) (fun a hF => ?_)
      refine vc_y hF rfl rfl (by decide) _ (y_not rfl rfl rfl) (fun a hF => ?_)
      refine vc_y hF rfl rfl (by decide) _ (y_move rfl rfl) (fun a hF => ?_)
      refine vc_skip hF rfl rfl rfl rfl rfl rfl (by decide) (fun a hF => ?_)
      refine vc_skip hF rfl rfl rfl rfl rfl rfl (by decide) (fun a hF => ?_)
      refine vc_y hF rfl rfl (by decide) _ (y_pick rfl rfl rfl) (fun a hF => ?_)
      refine vc_nil ?_
      refine hK22 _ _ ?_; clear  hK22 K22
      refine vc_true hF rfl ?_
      apply wp_seq_k; intro K23 hK23
      refine wp_region_lit ?_
      refine vc_y hF rfl rfl (by decide) _ (y_move rfl rfl) (fun a hF => ?_)
      refine vc_op rfl (fun K hK => ws_call hF rfl (by decide) cl97_or rfl rfl ?_)
      with_reducible refine (or_refuse w0 w rb R A l c p 0 8 8 rfl hw).mono ?_
      rintro e' w2 ⟨rfl, hA2⟩
      refine ⟨_, rfl, fun a hF => hK _ _ ?_⟩; clear hK K
      rw [if_pos rfl] at hA2
      refine vc_nil ?_
      refine hK23 _ _ ?_; clear  hK23 K23
      apply wp_seq_k; intro K24 hK24
      refine wp_region_lit ?_
      refine vc_y hF rfl rfl (by decide) _ (y_assign rfl rfl) (fun a hF => ?_)
      refine vc_nil ?_
      refine hK24 _ _ ?_; clear  hK24 K24
      apply wp_ret
      simp only [Exit.then]
      refine vc_ret1 hF Tryz.results99 rfl ?_
      exact ⟨by rw [flB, ahN, if_neg hle]; rfl, by rw [flP, flY, if_neg (fun h => hfl h.2), if_pos rfl, if_neg hfl]; exact hA2⟩
  · refine vc_enter Tryz.func99 rfl Tryz.ntmps99 (Nat.le_of_ble_eq_true rfl) (fun a hF => ?_)
    apply wp_seq_k; intro K25 hK25
    refine wp_region_lit ?_
    refine vc_y hF rfl rfl (by decide) _ (y_assign rfl rfl) (fun a hF => ?_)
    refine vc_nil ?_
    refine hK25 _ _ ?_; clear  hK25 K25
    apply wp_seq_k; intro K26 hK26
    apply wp_seq_k; intro K27 hK27
    refine wp_region_lit ?_
    refine vc_y hF rfl rfl (by decide) _ (y_move rfl rfl) (fun a hF => ?_)
    refine vc_y hF rfl rfl (by decide) _ (y_nilCheck rfl rfl) (fun a hF => ?_)
    refine vc_y hF rfl rfl (by decide) _ (y_field rfl Tryz.underlying152 rfl sz40_or (by decide) rfl (rfl : (⟨_, 0 + _, none⟩ : Addr) = ⟨_, 2, none⟩)) (fun a hF => ?_)
    refine vc_y hF rfl rfl (by decide) _ (y_loadAt rfl hw rfl 0 rfl rfl or_no57) (fun a hF => ?_)
    refine vc_y hF rfl rfl (by decide) _ (y_cmp (c := true) rfl rfl rfl rfl (neq_t (by omega))) (fun a hF => ?_)
    refine vc_nil ?_
    refine hK27 _ _ ?_; clear  hK27 K27
    refine vc_true hF rfl ?_
    apply wp_seq_k; intro K28 hK28
    refine wp_region_lit ?_
    refine vc_y hF rfl rfl (by decide) _ (y_assign rfl rfl) (fun a hF => ?_)
    refine vc_nil ?_
    refine hK28 _ _ ?_; clear  hK28 K28
    apply wp_ret
    simp only [Exit.then]
    refine vc_ret1 hF Tryz.results99 rfl ?_
    exact ⟨by simp [flB, hy], by rw [flP, flY, if_neg (fun h => hy h.1), if_neg hy]; exact hw⟩

end Go.Proofs.YtepbmdlgdaedpaaGreatDoor
