/- A value's bytes are laid: PutValue. -/
import Derived.Test.YtepbmdlgdaedpaaGreatDoorEv3
import Derived.Test.YtepbmdlgdaedpaaGreatDoorEvW
namespace Go.Proofs.YtepbmdlgdaedpaaGreatDoor
open Go.RowKit Go.Dk

theorem nr3_v4 : notRow Tryz.prog 3 = true := by kernel_rfl
theorem nr9_v4 : notRow Tryz.prog 9 = true := by kernel_rfl
theorem nr22_v4 : notRow Tryz.prog 22 = true := by kernel_rfl
theorem nr23_v4 : notRow Tryz.prog 23 = true := by kernel_rfl
theorem rw25_v4 : isRow Tryz.prog 25 4 = true := by kernel_rfl
theorem sz3_v4 : (Tryz.prog.info? 3).map (·.size) = some 1 := by kernel_rfl
theorem sz9_v4 : (Tryz.prog.info? 9).map (·.size) = some 1 := by kernel_rfl
theorem sz22_v4 : (Tryz.prog.info? 22).map (·.size) = some 1 := by kernel_rfl
theorem sz23_v4 : (Tryz.prog.info? 23).map (·.size) = some 1 := by kernel_rfl
theorem cl74_v4 : CallsTo Tryz.prog 74 := ⟨_, Tryz.func74, by kernel_rfl, by kernel_rfl⟩
theorem cl75_v4 : CallsTo Tryz.prog 75 := ⟨_, Tryz.func75, by kernel_rfl, by kernel_rfl⟩
theorem cl76_v4 : CallsTo Tryz.prog 76 := ⟨_, Tryz.func76, by kernel_rfl, by kernel_rfl⟩
theorem cl91_v4 : CallsTo Tryz.prog 91 := ⟨_, Tryz.func91, by kernel_rfl, by kernel_rfl⟩
theorem cl101_v4 : CallsTo Tryz.prog 101 := ⟨_, Tryz.func101, by kernel_rfl, by kernel_rfl⟩
theorem cl106_v4 : CallsTo Tryz.prog 106 := ⟨_, Tryz.func106, by kernel_rfl, by kernel_rfl⟩

theorem u64_wrap (n : Int) : IntKind.u64.wrap n = ((u64 n : Nat) : Int) := by
  rw [IntKind.wrap_u64]
  unfold u64
  omega
theorem tflat_small {s : List (List UInt8)} (h1 : s.length ≤ 64) (h2 : ∀ m ∈ s, m.length ≤ 1024) : (tflat s).length ≤ 65664 := by
  have h : ∀ l : List (List UInt8), (∀ m ∈ l, m.length ≤ 1024) → (tflat l).length ≤ l.length * 1026 := by
    intro l
    induction l with
    | nil => intro _; exact Nat.le_refl _
    | cons a l ih =>
      intro h
      have h3 := h a (List.mem_cons_self ..)
      have h4 := ih fun m hm => h m (List.mem_cons_of_mem _ hm)
      unfold tflat at h4 ⊢
      rw [List.flatMap_cons, List.length_append, List.length_append, be_length, List.length_cons]
      omega
  have := h s h2
  omega
theorem put_no {v : Val} {l : List UInt8} (h : ¬ v.right = 0) : l = l ++ v.put := by unfold Val.put; rw [if_neg h, List.append_nil]
theorem put_eq {v : Val} (h : v.right = 0) : v.put = v.bytes := if_pos h
theorem bytes_1 {v : Val} (hk : v.k = 1 ∨ v.k = 4) : v.bytes = be 1 v.k.toNat ++ be 8 (u64 v.n) := by unfold Val.bytes; rw [if_pos hk]
theorem bytes_2 {v : Val} (hk : v.k = 2) : v.bytes = be 1 v.k.toNat ++ [if v.n = 1 then 1 else 0] := by unfold Val.bytes; rw [if_neg (show ¬ (v.k = 1 ∨ v.k = 4) by omega), if_pos hk]
theorem bytes_3 {v : Val} (hk : v.k = 3) : v.bytes = be 1 v.k.toNat ++ (be 2 v.t.length ++ v.t) := by unfold Val.bytes; rw [if_neg (show ¬ (v.k = 1 ∨ v.k = 4) by omega), if_neg (show ¬ v.k = 2 by omega), if_pos hk]
theorem bytes_5 {v : Val} (hk : v.k = 5) : v.bytes = be 1 v.k.toNat ++ (be 2 v.s.length ++ tflat v.s) := by unfold Val.bytes; rw [if_neg (show ¬ (v.k = 1 ∨ v.k = 4) by omega), if_neg (show ¬ v.k = 2 by omega), if_neg (show ¬ v.k = 3 by omega), if_pos hk]
theorem bytes_0 {v : Val} (h1 : ¬ v.k = 1) (h4 : ¬ v.k = 4) (h2 : ¬ v.k = 2) (h3 : ¬ v.k = 3) (h5 : ¬ v.k = 5) : v.bytes = be 1 v.k.toNat := by unfold Val.bytes; rw [if_neg (show ¬ (v.k = 1 ∨ v.k = 4) by omega), if_neg h2, if_neg h3, if_neg h5, List.append_nil]
theorem put_1 {v : Val} {l : List UInt8} (h : v.right = 0) (hk : v.k = 1 ∨ v.k = 4) : l ++ be 1 v.k.toNat ++ be 8 (u64 v.n) = l ++ v.put := by rw [put_eq h, bytes_1 hk, List.append_assoc]
theorem put_2 {v : Val} {l : List UInt8} (h : v.right = 0) (hk : v.k = 2) : l ++ be 1 v.k.toNat ++ [if cmpB .eql v.n 1 = true then 1 else 0] = l ++ v.put := by
  rw [put_eq h, bytes_2 hk, List.append_assoc]
  simp [cmpB]
theorem textB_small {t : List UInt8} {m : Int} (h0 : 0 ≤ m) (h1 : m ≤ 65535) (ht : (t.length : Int) ≤ m) : textB t m = nameB t := by
  unfold textB
  rw [bnd_at h0 h1, if_neg (by omega)]
  rfl
theorem put_3 {v : Val} {l : List UInt8} (h : v.right = 0) (hk : v.k = 3) : l ++ be 1 v.k.toNat ++ textB v.t 1024 = l ++ v.put := by
  rw [put_eq h, bytes_3 hk, List.append_assoc, textB_small (by decide) (by decide) (by have := (Val.rt h).tl; omega)]
  rfl
theorem put_5 {v : Val} {l : List UInt8} (h : v.right = 0) (hk : v.k = 5) : l ++ be 1 v.k.toNat ++ textsB v.s 64 1024 = l ++ v.put := by
  have R := Val.rt h
  have hr : risesTo v.s v.s.length = true := by
    rcases R.k with h | h | h | h | h | h
    · omega
    · omega
    · omega
    · omega
    · omega
    · exact h.2.2
  rw [put_eq h, bytes_5 hk, List.append_assoc, textsB, if_pos (set_texts R.sl R.ml hr)]
theorem put_0 {v : Val} {l : List UInt8} (h : v.right = 0) (h1 : ¬ v.k = 1) (h4 : ¬ v.k = 4) (h2 : ¬ v.k = 2) (h3 : ¬ v.k = 3) (h5 : ¬ v.k = 5) : l ++ be 1 v.k.toNat = l ++ v.put := by rw [put_eq h, bytes_0 h1 h4 h2 h3 h5]
theorem put_len {v : Val} (h : v.right = 0) : v.put.length ≤ 65667 := by
  have R := Val.rt h
  have h5 := tflat_small R.sl R.ml
  have h3 := R.tl
  rw [put_eq h]
  by_cases c1 : v.k = 1 ∨ v.k = 4
  · rw [bytes_1 c1, List.length_append, be_length, be_length]; omega
  by_cases c2 : v.k = 2
  · rw [bytes_2 c2, List.length_append, be_length]; simp
  by_cases c3 : v.k = 3
  · rw [bytes_3 c3, List.length_append, List.length_append, be_length, be_length]; omega
  by_cases c5 : v.k = 5
  · rw [bytes_5 c5, List.length_append, List.length_append, be_length, be_length]; omega
  · rw [bytes_0 (fun h => c1 (.inl h)) (fun h => c1 (.inr h)) c2 c3 c5, be_length]; omega

set_option maxRecDepth 100000 in
set_option maxHeartbeats 2000000 in
theorem ev_put {w0 : World} {R : List Seg} {G : List Seg} (wb : Nat) (l : List UInt8) (Y : Seg) (va : VA) (w : World) (hV : va.Ok w0 G) (hG : G ⊆ R) (hY : WrS wb l Y) (hA : Hp w0 (Y :: R) w) (hl : l.length < 140737499000000) : Calls Tryz.prog 48 #[.pointer (some ⟨wb, 0, none⟩), .agg va.cells.toArray] w fun e w' => ∃ Y', e = .returned (.int .i64 (va.v.right : Nat)) ∧ WrS wb (l ++ va.v.put) Y' ∧ Hp w0 (Y' :: R) w' := by
  have hvn := hV.n
  refine vc_enter Tryz.func48 rfl Tryz.ntmps48 (Nat.le_of_ble_eq_true rfl) (fun a hF => ?_)
  apply wp_seq_k; intro K1 hK1
  refine wp_region_lit ?_
  refine vc_op rfl (fun K hK => hs_box (cs := [.int .i64 va.v.k, .int .i64 va.v.n, strV va.v.t, .slice va.sA va.v.s.length va.sC]) hF rfl (by decide) rfl hA rfl (fun b1 w2 a hb1 hF hA3 => hK _ _ ?_))
  clear hK K
  replace hA3 : Hp w0 ([row b1 25 [.int .i64 va.v.k, .int .i64 va.v.n, strV va.v.t, .slice va.sA va.v.s.length va.sC]] :: Y :: R) w2 := hA3
  refine vc_y hF rfl rfl (by decide) _ (y_assign rfl rfl) (fun a hF => ?_)
  refine vc_nil ?_
  refine hK1 _ _ ?_; clear  hK1 K1
  apply wp_seq_k; intro K2 hK2
  apply wp_seq_k; intro K3 hK3
  refine wp_region_lit ?_
  refine vc_y hF rfl rfl (by decide) _ (y_move rfl rfl) (fun a hF => ?_)
  refine vc_y hF rfl rfl (by decide) _ (y_eqNil rfl (by kernel_rfl) rfl rfl) (fun a hF => ?_)
  refine vc_nil ?_
  refine hK3 _ _ ?_; clear  hK3 K3
  refine vc_false hF rfl ?_
  apply wp_skip
  refine hK2 _ _ ?_; clear  hK2 K2
  apply wp_seq_k; intro K4 hK4
  apply wp_seq_k; intro K5 hK5
  refine wp_region_lit ?_
  refine vc_y hF rfl rfl (by decide) _ (y_ldRow (new := [.int .i64 va.v.k, .int .i64 va.v.n, strV va.v.t, .slice va.sA va.v.s.length va.sC]) rfl hA3.q rfl 0 rfl rw25_v4 (Nat.le_of_ble_eq_true rfl) rfl) (fun a hF => ?_)
  refine vc_op rfl (fun K hK => ws_call hF rfl (by decide) cl101_v4 rfl rfl ?_)
  with_reducible refine (ev_right va _ hV (List.Subset.trans hG (subC (subC (sub0)))) hA3 ).mono ?_
  rintro e' w4 ⟨rfl, hA5⟩
  refine ⟨_, rfl, fun a hF => hK _ _ ?_⟩
  clear hK K
  replace hA5 : Hp w0 ([row b1 25 [.int .i64 va.v.k, .int .i64 va.v.n, strV va.v.t, .slice va.sA va.v.s.length va.sC]] :: Y :: R) w4 := hA5
  refine vc_y hF rfl rfl (by decide) _ (y_assign rfl rfl) (fun a hF => ?_)
  refine vc_nil ?_
  refine hK5 _ _ ?_; clear  hK5 K5
  apply wp_seq_k; intro K6 hK6
  refine wp_region_lit ?_
  refine vc_y hF rfl rfl (by decide) _ (y_move rfl rfl) (fun a hF => ?_)
  refine vc_y hF rfl rfl (by decide) _ (y_cmp rfl rfl rfl rfl rfl) (fun a hF => ?_)
  refine vc_nil ?_
  refine hK6 _ _ ?_; clear  hK6 K6
  rcases tf (cmpB .neq (((va.v.right : Nat) : Int)) (0)) with hr | hr
  · refine vc_falseB hF rfl hr ?_
    have h0 := neq_no hr
    have hRt := Val.rt h0
    have hk : 0 ≤ va.v.k ∧ va.v.k ≤ 5 := by rcases hRt.k with h | h | h | h | h | h <;> omega
    have hks : va.v.k = ((va.v.k.toNat : Nat) : Int) := by omega
    apply wp_skip
    refine hK4 _ _ ?_; clear  hK4 K4
    apply wp_seq_k; intro K7 hK7
    refine wp_region_lit ?_
    refine vc_y hF rfl rfl (by decide) _ (y_move rfl rfl) (fun a hF => ?_)
    refine vc_y hF rfl rfl (by decide) _ (y_field rfl Tryz.underlying25 rfl sz22_v4 (by decide) rfl (rfl : (⟨_, 0 + _, none⟩ : Addr) = ⟨_, 0, none⟩)) (fun a hF => ?_)
    refine vc_y hF rfl rfl (by decide) _ (y_ld rfl hA5.q rfl 0 rfl rfl nr22_v4) (fun a hF => ?_)
    refine vc_y hF rfl rfl (by decide) _ (y_conv rfl Tryz.underlying22 Tryz.underlying5 rfl (show IntKind.u8.wrap (va.v.k) = va.v.k by rw [IntKind.wrap_u8]; omega)) (fun a hF => ?_)
    have hA6 : Hp w0 (Y :: [row b1 25 [.int .i64 va.v.k, .int .i64 va.v.n, strV va.v.t, .slice va.sA va.v.s.length va.sC]] :: R) w4 := Hp.ord [[row b1 25 [.int .i64 va.v.k, .int .i64 va.v.n, strV va.v.t, .slice va.sA va.v.s.length va.sC]], Y] R [1, 0] hA5 rfl
    refine vc_op rfl (fun K hK => ws_call hF rfl (by decide) cl74_v4 rfl rfl ?_)
    with_reducible refine (hw_put_uint8 w0 _ ([row b1 25 [.int .i64 va.v.k, .int .i64 va.v.n, strV va.v.t, .slice va.sA va.v.s.length va.sC]] :: R) wb _ _ va.v.k.toNat (by show va.v.k.toNat < 256; omega) va.v.k hks hY hA6 (by omega) ).mono ?_
    rintro e' w7 ⟨Y1, rfl, hY, hA8⟩
    refine ⟨_, rfl, fun a hF => hK _ _ ?_⟩
    clear hK K
    replace hA8 : Hp w0 (Y1 :: [row b1 25 [.int .i64 va.v.k, .int .i64 va.v.n, strV va.v.t, .slice va.sA va.v.s.length va.sC]] :: R) w7 := hA8
    refine vc_nil ?_
    refine hK7 _ _ ?_; clear  hK7 K7
    apply wp_seq_k; intro K8 hK8
    apply wp_seq_k; intro K9 hK9
    refine wp_region_lit ?_
    refine vc_y hF rfl rfl (by decide) _ (y_field rfl Tryz.underlying25 rfl sz22_v4 (by decide) rfl (rfl : (⟨_, 0 + _, none⟩ : Addr) = ⟨_, 0, none⟩)) (fun a hF => ?_)
    refine vc_y hF rfl rfl (by decide) _ (y_ld rfl hA8.q rfl 1 rfl rfl nr22_v4) (fun a hF => ?_)
    refine vc_nil ?_
    refine hK9 _ _ ?_; clear  hK9 K9
    apply wp_block
    apply wp_seq_k; intro K10 hK10
    apply wp_seq_k; intro K11 hK11
    refine wp_region_lit ?_
    refine vc_y hF rfl rfl (by decide) _ (y_cmp rfl rfl rfl rfl rfl) (fun a hF => ?_)
    refine vc_y hF rfl rfl (by decide) _ (y_assign rfl rfl) (fun a hF => ?_)
    refine vc_nil ?_
    refine hK11 _ _ ?_; clear  hK11 K11
    by_cases hk1 : va.v.k = 1
    · refine vc_trueB hF rfl (eql_t (by omega)) ?_
      apply wp_skip
      refine hK10 _ _ ?_; clear  hK10 K10
      refine vc_trueB hF rfl (eql_t (by omega)) ?_
      refine wp_region_lit ?_
      refine vc_y hF rfl rfl (by decide) _ (y_move rfl rfl) (fun a hF => ?_)
      refine vc_y hF rfl rfl (by decide) _ (y_field rfl Tryz.underlying25 rfl sz3_v4 (by decide) rfl (rfl : (⟨_, 0 + _, none⟩ : Addr) = ⟨_, 1, none⟩)) (fun a hF => ?_)
      refine vc_y hF rfl rfl (by decide) _ (y_ld rfl hA8.q rfl 1 rfl rfl nr3_v4) (fun a hF => ?_)
      refine vc_y hF rfl rfl (by decide) _ (y_conv rfl Tryz.underlying3 Tryz.underlying135 rfl (u64_wrap _)) (fun a hF => ?_)
      refine vc_op rfl (fun K hK => ws_call hF rfl (by decide) cl75_v4 rfl rfl ?_)
      with_reducible refine (hw_put_uint64 w0 _ ([row b1 25 [.int .i64 va.v.k, .int .i64 va.v.n, strV va.v.t, .slice va.sA va.v.s.length va.sC]] :: R) wb _ _ (u64 va.v.n) (u64_lt _) _ rfl hY hA8 (by rw [List.length_append, be_length]; omega) ).mono ?_
      rintro e' w9 ⟨Y2, rfl, hY, hA10⟩
      refine ⟨_, rfl, fun a hF => hK _ _ ?_⟩
      clear hK K
      replace hA10 : Hp w0 (Y2 :: [row b1 25 [.int .i64 va.v.k, .int .i64 va.v.n, strV va.v.t, .slice va.sA va.v.s.length va.sC]] :: R) w9 := hA10
      refine vc_nil ?_
      refine hK8 _ _ ?_; clear  hK8 K8
      apply wp_seq_k; intro K12 hK12
      refine wp_region_lit ?_
      refine vc_y hF rfl rfl (by decide) _ (y_assign rfl rfl) (fun a hF => ?_)
      refine vc_nil ?_
      refine hK12 _ _ ?_; clear  hK12 K12
      apply wp_ret
      refine vc_ret1 hF Tryz.results48 rfl ?_
      have hA11 : Hp w0 (Y2 :: R) w9 := Hp.sel [Y2, [row b1 25 [.int .i64 va.v.k, .int .i64 va.v.n, strV va.v.t, .slice va.sA va.v.s.length va.sC]]] R [0] [1] hA10 rfl
      exact ⟨_, by rw [h0]; rfl, hY.same (put_1 h0 (.inl hk1)), hA11⟩
    · by_cases hk4 : va.v.k = 4
      · refine vc_falseB hF rfl (eql_f (by omega)) ?_
        refine wp_region_lit ?_
        refine vc_y hF rfl rfl (by decide) _ (y_cmp rfl rfl rfl rfl rfl) (fun a hF => ?_)
        refine vc_y hF rfl rfl (by decide) _ (y_assign rfl rfl) (fun a hF => ?_)
        refine vc_nil ?_
        refine hK10 _ _ ?_; clear  hK10 K10
        refine vc_trueB hF rfl (eql_t (by omega)) ?_
        refine wp_region_lit ?_
        refine vc_y hF rfl rfl (by decide) _ (y_move rfl rfl) (fun a hF => ?_)
        refine vc_y hF rfl rfl (by decide) _ (y_field rfl Tryz.underlying25 rfl sz3_v4 (by decide) rfl (rfl : (⟨_, 0 + _, none⟩ : Addr) = ⟨_, 1, none⟩)) (fun a hF => ?_)
        refine vc_y hF rfl rfl (by decide) _ (y_ld rfl hA8.q rfl 1 rfl rfl nr3_v4) (fun a hF => ?_)
        refine vc_y hF rfl rfl (by decide) _ (y_conv rfl Tryz.underlying3 Tryz.underlying135 rfl (u64_wrap _)) (fun a hF => ?_)
        refine vc_op rfl (fun K hK => ws_call hF rfl (by decide) cl75_v4 rfl rfl ?_)
        with_reducible refine (hw_put_uint64 w0 _ ([row b1 25 [.int .i64 va.v.k, .int .i64 va.v.n, strV va.v.t, .slice va.sA va.v.s.length va.sC]] :: R) wb _ _ (u64 va.v.n) (u64_lt _) _ rfl hY hA8 (by rw [List.length_append, be_length]; omega) ).mono ?_
        rintro e' w12 ⟨Y2, rfl, hY, hA13⟩
        refine ⟨_, rfl, fun a hF => hK _ _ ?_⟩
        clear hK K
        replace hA13 : Hp w0 (Y2 :: [row b1 25 [.int .i64 va.v.k, .int .i64 va.v.n, strV va.v.t, .slice va.sA va.v.s.length va.sC]] :: R) w12 := hA13
        refine vc_nil ?_
        refine hK8 _ _ ?_; clear  hK8 K8
        apply wp_seq_k; intro K13 hK13
        refine wp_region_lit ?_
        refine vc_y hF rfl rfl (by decide) _ (y_assign rfl rfl) (fun a hF => ?_)
        refine vc_nil ?_
        refine hK13 _ _ ?_; clear  hK13 K13
        apply wp_ret
        refine vc_ret1 hF Tryz.results48 rfl ?_
        have hA14 : Hp w0 (Y2 :: R) w12 := Hp.sel [Y2, [row b1 25 [.int .i64 va.v.k, .int .i64 va.v.n, strV va.v.t, .slice va.sA va.v.s.length va.sC]]] R [0] [1] hA13 rfl
        exact ⟨_, by rw [h0]; rfl, hY.same (put_1 h0 (.inr hk4)), hA14⟩
      · by_cases hk2 : va.v.k = 2
        · refine vc_falseB hF rfl (eql_f (by omega)) ?_
          refine wp_region_lit ?_
          refine vc_y hF rfl rfl (by decide) _ (y_cmp rfl rfl rfl rfl rfl) (fun a hF => ?_)
          refine vc_y hF rfl rfl (by decide) _ (y_assign rfl rfl) (fun a hF => ?_)
          refine vc_nil ?_
          refine hK10 _ _ ?_; clear  hK10 K10
          refine vc_falseB hF rfl (eql_f (by omega)) ?_
          apply wp_seq_k; intro K14 hK14
          refine wp_region_lit ?_
          refine vc_y hF rfl rfl (by decide) _ (y_cmp rfl rfl rfl rfl rfl) (fun a hF => ?_)
          refine vc_y hF rfl rfl (by decide) _ (y_assign rfl rfl) (fun a hF => ?_)
          refine vc_nil ?_
          refine hK14 _ _ ?_; clear  hK14 K14
          refine vc_trueB hF rfl (eql_t (by omega)) ?_
          refine wp_region_lit ?_
          refine vc_y hF rfl rfl (by decide) _ (y_move rfl rfl) (fun a hF => ?_)
          refine vc_y hF rfl rfl (by decide) _ (y_field rfl Tryz.underlying25 rfl sz3_v4 (by decide) rfl (rfl : (⟨_, 0 + _, none⟩ : Addr) = ⟨_, 1, none⟩)) (fun a hF => ?_)
          refine vc_y hF rfl rfl (by decide) _ (y_ld rfl hA8.q rfl 1 rfl rfl nr3_v4) (fun a hF => ?_)
          refine vc_y hF rfl rfl (by decide) _ (y_cmp rfl rfl rfl rfl rfl) (fun a hF => ?_)
          refine vc_op rfl (fun K hK => ws_call hF rfl (by decide) cl91_v4 rfl rfl ?_)
          with_reducible refine (hw_flag w0 _ ([row b1 25 [.int .i64 va.v.k, .int .i64 va.v.n, strV va.v.t, .slice va.sA va.v.s.length va.sC]] :: R) wb _ _ (cmpB .eql va.v.n 1) hY hA8 (by rw [List.length_append, be_length]; omega) ).mono ?_
          rintro e' w15 ⟨Y2, rfl, hY, hA16⟩
          refine ⟨_, rfl, fun a hF => hK _ _ ?_⟩
          clear hK K
          replace hA16 : Hp w0 (Y2 :: [row b1 25 [.int .i64 va.v.k, .int .i64 va.v.n, strV va.v.t, .slice va.sA va.v.s.length va.sC]] :: R) w15 := hA16
          refine vc_nil ?_
          refine hK8 _ _ ?_; clear  hK8 K8
          apply wp_seq_k; intro K15 hK15
          refine wp_region_lit ?_
          refine vc_y hF rfl rfl (by decide) _ (y_assign rfl rfl) (fun a hF => ?_)
          refine vc_nil ?_
          refine hK15 _ _ ?_; clear  hK15 K15
          apply wp_ret
          refine vc_ret1 hF Tryz.results48 rfl ?_
          have hA17 : Hp w0 (Y2 :: R) w15 := Hp.sel [Y2, [row b1 25 [.int .i64 va.v.k, .int .i64 va.v.n, strV va.v.t, .slice va.sA va.v.s.length va.sC]]] R [0] [1] hA16 rfl
          exact ⟨_, by rw [h0]; rfl, hY.same (put_2 h0 hk2), hA17⟩
        · by_cases hk3 : va.v.k = 3
          · refine vc_falseB hF rfl (eql_f (by omega)) ?_
            refine wp_region_lit ?_
            refine vc_y hF rfl rfl (by decide) _ (y_cmp rfl rfl rfl rfl rfl) (fun a hF => ?_)
            refine vc_y hF rfl rfl (by decide) _ (y_assign rfl rfl) (fun a hF => ?_)
            refine vc_nil ?_
            refine hK10 _ _ ?_; clear  hK10 K10
            refine vc_falseB hF rfl (eql_f (by omega)) ?_
            apply wp_seq_k; intro K16 hK16
            refine wp_region_lit ?_
            refine vc_y hF rfl rfl (by decide) _ (y_cmp rfl rfl rfl rfl rfl) (fun a hF => ?_)
            refine vc_y hF rfl rfl (by decide) _ (y_assign rfl rfl) (fun a hF => ?_)
            refine vc_nil ?_
            refine hK16 _ _ ?_; clear  hK16 K16
            refine vc_falseB hF rfl (eql_f (by omega)) ?_
            apply wp_seq_k; intro K17 hK17
            refine wp_region_lit ?_
            refine vc_y hF rfl rfl (by decide) _ (y_cmp rfl rfl rfl rfl rfl) (fun a hF => ?_)
            refine vc_y hF rfl rfl (by decide) _ (y_assign rfl rfl) (fun a hF => ?_)
            refine vc_nil ?_
            refine hK17 _ _ ?_; clear  hK17 K17
            refine vc_trueB hF rfl (eql_t (by omega)) ?_
            refine wp_region_lit ?_
            refine vc_y hF rfl rfl (by decide) _ (y_move rfl rfl) (fun a hF => ?_)
            refine vc_y hF rfl rfl (by decide) _ (y_field rfl Tryz.underlying25 rfl sz9_v4 (by decide) rfl (rfl : (⟨_, 0 + _, none⟩ : Addr) = ⟨_, 2, none⟩)) (fun a hF => ?_)
            refine vc_y hF rfl rfl (by decide) _ (y_ld rfl hA8.q rfl 1 rfl rfl nr9_v4) (fun a hF => ?_)
            refine vc_op rfl (fun K hK => ws_call hF rfl (by decide) cl76_v4 rfl rfl ?_)
            with_reducible refine (hw_text w0 _ ([row b1 25 [.int .i64 va.v.k, .int .i64 va.v.n, strV va.v.t, .slice va.sA va.v.s.length va.sC]] :: R) wb _ _ va.v.t 1024 hY hA8 (by have := hRt.tl; rw [List.length_append, be_length]; omega) ).mono ?_
            rintro e' w18 ⟨Y2, rfl, hY, hA19⟩
            refine ⟨_, rfl, fun a hF => hK _ _ ?_⟩
            clear hK K
            replace hA19 : Hp w0 (Y2 :: [row b1 25 [.int .i64 va.v.k, .int .i64 va.v.n, strV va.v.t, .slice va.sA va.v.s.length va.sC]] :: R) w18 := hA19
            refine vc_nil ?_
            refine hK8 _ _ ?_; clear  hK8 K8
            apply wp_seq_k; intro K18 hK18
            refine wp_region_lit ?_
            refine vc_y hF rfl rfl (by decide) _ (y_assign rfl rfl) (fun a hF => ?_)
            refine vc_nil ?_
            refine hK18 _ _ ?_; clear  hK18 K18
            apply wp_ret
            refine vc_ret1 hF Tryz.results48 rfl ?_
            have hA20 : Hp w0 (Y2 :: R) w18 := Hp.sel [Y2, [row b1 25 [.int .i64 va.v.k, .int .i64 va.v.n, strV va.v.t, .slice va.sA va.v.s.length va.sC]]] R [0] [1] hA19 rfl
            exact ⟨_, by rw [h0]; rfl, hY.same (put_3 h0 hk3), hA20⟩
          · by_cases hk5 : va.v.k = 5
            · refine vc_falseB hF rfl (eql_f (by omega)) ?_
              refine wp_region_lit ?_
              refine vc_y hF rfl rfl (by decide) _ (y_cmp rfl rfl rfl rfl rfl) (fun a hF => ?_)
              refine vc_y hF rfl rfl (by decide) _ (y_assign rfl rfl) (fun a hF => ?_)
              refine vc_nil ?_
              refine hK10 _ _ ?_; clear  hK10 K10
              refine vc_falseB hF rfl (eql_f (by omega)) ?_
              apply wp_seq_k; intro K19 hK19
              refine wp_region_lit ?_
              refine vc_y hF rfl rfl (by decide) _ (y_cmp rfl rfl rfl rfl rfl) (fun a hF => ?_)
              refine vc_y hF rfl rfl (by decide) _ (y_assign rfl rfl) (fun a hF => ?_)
              refine vc_nil ?_
              refine hK19 _ _ ?_; clear  hK19 K19
              refine vc_falseB hF rfl (eql_f (by omega)) ?_
              apply wp_seq_k; intro K20 hK20
              refine wp_region_lit ?_
              refine vc_y hF rfl rfl (by decide) _ (y_cmp rfl rfl rfl rfl rfl) (fun a hF => ?_)
              refine vc_y hF rfl rfl (by decide) _ (y_assign rfl rfl) (fun a hF => ?_)
              refine vc_nil ?_
              refine hK20 _ _ ?_; clear  hK20 K20
              refine vc_falseB hF rfl (eql_f (by omega)) ?_
              apply wp_seq_k; intro K21 hK21
              refine wp_region_lit ?_
              refine vc_y hF rfl rfl (by decide) _ (y_cmp rfl rfl rfl rfl rfl) (fun a hF => ?_)
              refine vc_y hF rfl rfl (by decide) _ (y_assign rfl rfl) (fun a hF => ?_)
              refine vc_nil ?_
              refine hK21 _ _ ?_; clear  hK21 K21
              refine vc_trueB hF rfl (eql_t (by omega)) ?_
              refine wp_region_lit ?_
              refine vc_y hF rfl rfl (by decide) _ (y_move rfl rfl) (fun a hF => ?_)
              refine vc_y hF rfl rfl (by decide) _ (y_field rfl Tryz.underlying25 rfl sz23_v4 (by decide) rfl (rfl : (⟨_, 0 + _, none⟩ : Addr) = ⟨_, 3, none⟩)) (fun a hF => ?_)
              refine vc_y hF rfl rfl (by decide) _ (y_ld rfl hA8.q rfl 1 rfl rfl nr23_v4) (fun a hF => ?_)
              refine vc_op rfl (fun K hK => ws_call hF rfl (by decide) cl106_v4 rfl rfl ?_)
              with_reducible refine (hw_texts w0 _ ([row b1 25 [.int .i64 va.v.k, .int .i64 va.v.n, strV va.v.t, .slice va.sA va.v.s.length va.sC]] :: R) wb _ _ va.sA va.v.s va.sC (hV.rc.mono (List.Subset.trans hG (subC (sub0)))) 64 1024 hY hA8 (by have := tflat_small hRt.sl hRt.ml; rw [List.length_append, be_length]; omega) hvn ).mono ?_
              rintro e' w21 ⟨Y2, rfl, hY, hA22⟩
              refine ⟨_, rfl, fun a hF => hK _ _ ?_⟩
              clear hK K
              replace hA22 : Hp w0 (Y2 :: [row b1 25 [.int .i64 va.v.k, .int .i64 va.v.n, strV va.v.t, .slice va.sA va.v.s.length va.sC]] :: R) w21 := hA22
              refine vc_nil ?_
              refine hK8 _ _ ?_; clear  hK8 K8
              apply wp_seq_k; intro K22 hK22
              refine wp_region_lit ?_
              refine vc_y hF rfl rfl (by decide) _ (y_assign rfl rfl) (fun a hF => ?_)
              refine vc_nil ?_
              refine hK22 _ _ ?_; clear  hK22 K22
              apply wp_ret
              refine vc_ret1 hF Tryz.results48 rfl ?_
              have hA23 : Hp w0 (Y2 :: R) w21 := Hp.sel [Y2, [row b1 25 [.int .i64 va.v.k, .int .i64 va.v.n, strV va.v.t, .slice va.sA va.v.s.length va.sC]]] R [0] [1] hA22 rfl
              exact ⟨_, by rw [h0]; rfl, hY.same (put_5 h0 hk5), hA23⟩
            · refine vc_falseB hF rfl (eql_f (by omega)) ?_
              refine wp_region_lit ?_
              refine vc_y hF rfl rfl (by decide) _ (y_cmp rfl rfl rfl rfl rfl) (fun a hF => ?_)
              refine vc_y hF rfl rfl (by decide) _ (y_assign rfl rfl) (fun a hF => ?_)
              refine vc_nil ?_
              refine hK10 _ _ ?_; clear  hK10 K10
              refine vc_falseB hF rfl (eql_f (by omega)) ?_
              apply wp_seq_k; intro K23 hK23
              refine wp_region_lit ?_
              refine vc_y hF rfl rfl (by decide) _ (y_cmp rfl rfl rfl rfl rfl) (fun a hF => ?_)
              refine vc_y hF rfl rfl (by decide) _ (y_assign rfl rfl) (fun a hF => ?_)
              refine vc_nil ?_
              refine hK23 _ _ ?_; clear  hK23 K23
              refine vc_falseB hF rfl (eql_f (by omega)) ?_
              apply wp_seq_k; intro K24 hK24
              refine wp_region_lit ?_
              refine vc_y hF rfl rfl (by decide) _ (y_cmp rfl rfl rfl rfl rfl) (fun a hF => ?_)
              refine vc_y hF rfl rfl (by decide) _ (y_assign rfl rfl) (fun a hF => ?_)
              refine vc_nil ?_
              refine hK24 _ _ ?_; clear  hK24 K24
              refine vc_falseB hF rfl (eql_f (by omega)) ?_
              apply wp_seq_k; intro K25 hK25
              refine wp_region_lit ?_
              refine vc_y hF rfl rfl (by decide) _ (y_cmp rfl rfl rfl rfl rfl) (fun a hF => ?_)
              refine vc_y hF rfl rfl (by decide) _ (y_assign rfl rfl) (fun a hF => ?_)
              refine vc_nil ?_
              refine hK25 _ _ ?_; clear  hK25 K25
              refine vc_falseB hF rfl (eql_f (by omega)) ?_
              apply wp_skip
              refine hK8 _ _ ?_; clear  hK8 K8
              apply wp_seq_k; intro K26 hK26
              refine wp_region_lit ?_
              refine vc_y hF rfl rfl (by decide) _ (y_assign rfl rfl) (fun a hF => ?_)
              refine vc_nil ?_
              refine hK26 _ _ ?_; clear  hK26 K26
              apply wp_ret
              refine vc_ret1 hF Tryz.results48 rfl ?_
              have hA24 : Hp w0 (Y1 :: R) w7 := Hp.sel [Y1, [row b1 25 [.int .i64 va.v.k, .int .i64 va.v.n, strV va.v.t, .slice va.sA va.v.s.length va.sC]]] R [0] [1] hA8 rfl
              exact ⟨_, by rw [h0]; rfl, hY.same (put_0 h0 hk1 hk4 hk2 hk3 hk5), hA24⟩
  · refine vc_trueB hF rfl hr ?_
    apply wp_seq_k; intro K27 hK27
    refine wp_region_lit ?_
    refine vc_y hF rfl rfl (by decide) _ (y_move rfl rfl) (fun a hF => ?_)
    refine vc_y hF rfl rfl (by decide) _ (y_assign rfl rfl) (fun a hF => ?_)
    refine vc_nil ?_
    refine hK27 _ _ ?_; clear  hK27 K27
    apply wp_ret
    simp only [Exit.then]
    refine vc_ret1 hF Tryz.results48 rfl ?_
    have hA25 : Hp w0 (Y :: R) w4 := Hp.sel [[row b1 25 [.int .i64 va.v.k, .int .i64 va.v.n, strV va.v.t, .slice va.sA va.v.s.length va.sC]], Y] R [1] [0] hA5 rfl
    exact ⟨_, rfl, hY.same (put_no (neq_yes hr)), hA25⟩
end Go.Proofs.YtepbmdlgdaedpaaGreatDoor
