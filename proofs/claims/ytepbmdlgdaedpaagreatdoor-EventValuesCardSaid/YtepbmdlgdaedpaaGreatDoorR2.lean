/- The document's own: a value as bytes, and taken off the front of bytes. -/
import Derived.Test.YtepbmdlgdaedpaaGreatDoorR1
import Derived.Test.YtepbmdlgdaedpaaGreatDoorRt
import Derived.Test.YtepbmdlgdaedpaaGreatDoorEvI
namespace Go.Proofs.YtepbmdlgdaedpaaGreatDoor
open Go.RowKit Go.Dk

theorem nr3_v16 : notRow Tryz.prog 3 = true := by kernel_rfl
theorem nr5_v16 : notRow Tryz.prog 5 = true := by kernel_rfl
theorem nr9_v16 : notRow Tryz.prog 9 = true := by kernel_rfl
theorem nr22_v16 : notRow Tryz.prog 22 = true := by kernel_rfl
theorem nr23_v16 : notRow Tryz.prog 23 = true := by kernel_rfl
theorem rw25_v16 : isRow Tryz.prog 25 4 = true := by kernel_rfl
theorem sz3_v16 : (Tryz.prog.info? 3).map (·.size) = some 1 := by kernel_rfl
theorem sz5_v16 : (Tryz.prog.info? 5).map (·.size) = some 1 := by kernel_rfl
theorem sz9_v16 : (Tryz.prog.info? 9).map (·.size) = some 1 := by kernel_rfl
theorem sz22_v16 : (Tryz.prog.info? 22).map (·.size) = some 1 := by kernel_rfl
theorem sz23_v16 : (Tryz.prog.info? 23).map (·.size) = some 1 := by kernel_rfl
theorem sz25_v16 : (Tryz.prog.info? 25).map (·.size) = some 4 := by kernel_rfl
theorem cl107_v16 : CallsTo Tryz.prog 107 := ⟨_, Tryz.func107, by kernel_rfl, by kernel_rfl⟩
theorem cl108_v16 : CallsTo Tryz.prog 108 := ⟨_, Tryz.func108, by kernel_rfl, by kernel_rfl⟩
theorem cl109_v16 : CallsTo Tryz.prog 109 := ⟨_, Tryz.func109, by kernel_rfl, by kernel_rfl⟩
theorem cl110_v16 : CallsTo Tryz.prog 110 := ⟨_, Tryz.func110, by kernel_rfl, by kernel_rfl⟩
theorem cl111_v16 : CallsTo Tryz.prog 111 := ⟨_, Tryz.func111, by kernel_rfl, by kernel_rfl⟩
theorem cl112_v16 : CallsTo Tryz.prog 112 := ⟨_, Tryz.func112, by kernel_rfl, by kernel_rfl⟩
theorem cl113_v16 : CallsTo Tryz.prog 113 := ⟨_, Tryz.func113, by kernel_rfl, by kernel_rfl⟩

theorem zr25_v16 : zeroIs Tryz.prog 25 (.agg ([.int .i64 0, .int .i64 0, .string (⟨#[]⟩), .slice none 0 0] : List Value).toArray) := by unfold zeroIs; kernel_rfl
theorem be_one (n : Nat) : be 1 n = [UInt8.ofNat n] := by
  show [UInt8.ofNat (n / 256 ^ 0)] = _
  rw [Nat.pow_zero, Nat.div_one]
theorem kb8 {k : Int} (h : 0 ≤ k ∧ k ≤ 255) : IntKind.u8.wrap k = ((UInt8.ofNat k.toNat).toNat : Int) := by
  rw [IntKind.wrap_u8, UInt8.toNat_ofNat']
  omega
theorem nb8 {n : Int} (h : n = 0 ∨ n = 1) : IntKind.u8.wrap n = ((if n = 1 then 1 else 0 : UInt8).toNat : Int) := by
  rcases h with h | h <;> subst h <;> rfl
theorem vby_14 {v : Val} (h : v.k = 1 ∨ v.k = 4) : v.bytes = be 1 v.k.toNat ++ be 8 (u64 v.n) := by unfold Val.bytes; rw [if_pos h]
theorem vby_2 {v : Val} (h : v.k = 2) : v.bytes = be 1 v.k.toNat ++ [if v.n = 1 then 1 else 0] := by unfold Val.bytes; rw [if_neg (by omega), if_pos h]
theorem vby_3 {v : Val} (h : v.k = 3) : v.bytes = be 1 v.k.toNat ++ nameB v.t := by unfold Val.bytes nameB; rw [if_neg (by omega), if_neg (by omega), if_pos h]
theorem vby_5 {v : Val} (h : v.k = 5) : v.bytes = be 1 v.k.toNat ++ (be 2 v.s.length ++ tflat v.s) := by unfold Val.bytes; rw [if_neg (by omega), if_neg (by omega), if_neg (by omega), if_pos h]
theorem vby_0 {v : Val} (h : ¬ (v.k = 1 ∨ v.k = 4) ∧ ¬ v.k = 2 ∧ ¬ v.k = 3 ∧ ¬ v.k = 5) : v.bytes = be 1 v.k.toNat := by unfold Val.bytes; rw [if_neg h.1, if_neg h.2.1, if_neg h.2.2.1, if_neg h.2.2.2, List.append_nil]
theorem tfl_small {ss : List (List UInt8)} (h : ∀ m ∈ ss, m.length ≤ 1024) (i : Nat) : (tflat (ss.take i)).length ≤ 1026 * i := by
  induction i with
  | zero => simp [tflat]
  | succ i ih =>
    cases hq : ss[i]? with
    | none => rw [List.take_add_one, hq]; simp only [Option.toList_none, List.append_nil]; omega
    | some q =>
      rw [tflat_take hq, List.length_append, List.length_append, be_length]
      have := h q (List.mem_of_getElem? hq)
      omega

set_option maxRecDepth 100000 in
set_option maxHeartbeats 8000000 in
theorem rv_value {w0 : World} {R : List Seg} {G : List Seg} (va : VA) (w : World) (hV : va.Ok w0 G) (hG : G ⊆ R) (hA : Hp w0 R w) : Calls Tryz.prog 49 #[.agg va.cells.toArray] w fun e w' => ∃ v Z, e = .returned (.tuple #[v, .int .i64 (va.v.right : Nat)]) ∧ Buf 5 1 Z v va.v.put.length (dc va.v.put) ∧ Hp w0 (Z :: R) w' := by
  have hn := hV.n
  refine vc_enter Tryz.func49 rfl Tryz.ntmps49 (Nat.le_of_ble_eq_true rfl) (fun a hF => ?_)
  apply wp_seq_k; intro K1 hK1
  refine wp_region_lit ?_
  refine vc_op rfl (fun K hK => hs_box (cs := [.int .i64 va.v.k, .int .i64 va.v.n, strV va.v.t, .slice va.sA va.v.s.length va.sC]) hF rfl (by decide) rfl hA rfl (fun b1 w2 a hb1 hF hA3 => hK _ _ ?_))
  clear hK K
  replace hA3 : Hp w0 ([row b1 25 [.int .i64 va.v.k, .int .i64 va.v.n, strV va.v.t, .slice va.sA va.v.s.length va.sC]] :: R) w2 := hA3
  refine vc_y hF rfl rfl (by decide) _ (y_assign rfl rfl) (fun a hF => ?_)
  refine vc_y hF rfl rfl (by decide) _ (y_assign rfl rfl) (fun a hF => ?_)
  refine vc_nil ?_
  refine hK1 _ _ ?_; clear  hK1 K1
  apply wp_seq_k; intro K2 hK2
  refine wp_region_lit ?_
  refine vc_y hF rfl rfl (by decide) _ (y_ldRow (new := [.int .i64 va.v.k, .int .i64 va.v.n, strV va.v.t, .slice va.sA va.v.s.length va.sC]) rfl hA3.q rfl 0 rfl rw25_v16 (Nat.le_of_ble_eq_true rfl) rfl) (fun a hF => ?_)
  refine vc_op rfl (fun K hK => ws_call hF rfl (by decide) cl107_v16 rfl rfl ?_)
  with_reducible refine (rv_right va _ hV (List.Subset.trans hG (subC (sub0))) hA3 ).mono ?_
  rintro e' w4 ⟨rfl, hA5⟩
  refine ⟨_, rfl, fun a hF => hK _ _ ?_⟩
  clear hK K
  replace hA5 : Hp w0 ([row b1 25 [.int .i64 va.v.k, .int .i64 va.v.n, strV va.v.t, .slice va.sA va.v.s.length va.sC]] :: R) w4 := hA5
  refine vc_y hF rfl rfl (by decide) _ (y_assign rfl rfl) (fun a hF => ?_)
  refine vc_nil ?_
  refine hK2 _ _ ?_; clear  hK2 K2
  apply wp_seq_k; intro K3 hK3
  apply wp_seq_k; intro K4 hK4
  refine wp_region_lit ?_
  refine vc_y hF rfl rfl (by decide) _ (y_move rfl rfl) (fun a hF => ?_)
  refine vc_y hF rfl rfl (by decide) _ (y_cmp rfl rfl rfl rfl rfl) (fun a hF => ?_)
  refine vc_nil ?_
  refine hK4 _ _ ?_; clear  hK4 K4
  by_cases hr0 : va.v.right = 0
  · refine vc_falseB hF rfl (neq_f (by omega)) ?_
    have hR := Val.rt hr0
    have hk : 0 ≤ va.v.k ∧ va.v.k ≤ 5 := by rcases hR.k with h | h | h | h | h | h <;> omega
    obtain ⟨b0, hb0⟩ : ∃ b0, b0 = UInt8.ofNat va.v.k.toNat := ⟨_, rfl⟩
    have hbe : be 1 va.v.k.toNat = [b0] := by rw [hb0]; exact be_one _
    apply wp_skip
    refine hK3 _ _ ?_; clear  hK3 K3
    apply wp_seq_k; intro K5 hK5
    refine wp_region_lit ?_
    refine vc_y hF rfl rfl (by decide) _ (y_field rfl Tryz.underlying25 rfl sz22_v16 (by decide) rfl (rfl : (⟨_, 0 + _, none⟩ : Addr) = ⟨_, 0, none⟩)) (fun a hF => ?_)
    refine vc_y hF rfl rfl (by decide) _ (y_ld rfl hA5.q rfl 0 rfl rfl nr22_v16) (fun a hF => ?_)
    refine vc_y hF rfl rfl (by decide) _ (y_conv rfl Tryz.underlying22 Tryz.underlying5 rfl (show IntKind.u8.wrap va.v.k = (b0.toNat : Int) by rw [hb0]; exact kb8 (by omega))) (fun a hF => ?_)
    refine vc_op rfl (fun K hK => hs_byte1 hF rfl (by decide) rfl hA5 b0 rfl ow_build (fun b6 w7 a hb6 hF hA8 => hK _ _ ?_))
    clear hK K
    replace hA8 : Hp w0 ([row b6 5 (dc [b0])] :: [row b1 25 [.int .i64 va.v.k, .int .i64 va.v.n, strV va.v.t, .slice va.sA va.v.s.length va.sC]] :: R) w7 := hA8
    refine vc_y hF rfl rfl (by decide) _ (y_assign rfl rfl) (fun a hF => ?_)
    refine vc_nil ?_
    refine hK5 _ _ ?_; clear  hK5 K5
    apply wp_seq_k; intro K6 hK6
    apply wp_seq_k; intro K7 hK7
    refine wp_region_lit ?_
    refine vc_y hF rfl rfl (by decide) _ (y_field rfl Tryz.underlying25 rfl sz22_v16 (by decide) rfl (rfl : (⟨_, 0 + _, none⟩ : Addr) = ⟨_, 0, none⟩)) (fun a hF => ?_)
    refine vc_y hF rfl rfl (by decide) _ (y_ld rfl hA8.q rfl 1 rfl rfl nr22_v16) (fun a hF => ?_)
    refine vc_y hF rfl rfl (by decide) _ (y_cmp rfl rfl rfl rfl rfl) (fun a hF => ?_)
    refine vc_y hF rfl rfl (by decide) _ (y_move rfl rfl) (fun a hF => ?_)
    refine vc_meet (l2 := ?lA1) hF [(23, .bool ((cmpB .eql (va.v.k) (1)) || (cmpB .eql (va.v.k) (4)))), (0, .agg ([.int .i64 va.v.k, .int .i64 va.v.n, strV va.v.t, .slice va.sA va.v.s.length va.sC]).toArray), (1, .pointer (some ⟨b1, 0, none⟩)), (2, .slice none 0 0), (3, .int .i64 0), (7, .agg ([.int .i64 va.v.k, .int .i64 va.v.n, strV va.v.t, .slice va.sA va.v.s.length va.sC]).toArray), (8, .int .i64 ((va.v.right : Nat) : Int)), (4, .int .i64 ((va.v.right : Nat) : Int)), (9, .int .i64 ((va.v.right : Nat) : Int)), (10, .bool (cmpB .neq (((va.v.right : Nat) : Int)) (0))), (12, .pointer (some ⟨b1, 0, none⟩)), (13, .int .i64 va.v.k), (14, .int .u8 (b0.toNat : Int)), (15, .slice (some ⟨b6, 0, none⟩) 1 1), (5, .slice (some ⟨b6, 0, none⟩) 1 1)] (fun hJ1 => ?elA1) (fun a hF => ?flA1)
    case elA1 =>
      rcases tf (cmpB .eql (va.v.k) (1)) with hg1 | hg1
      · refine vc_yg hF rfl rfl rfl rfl (some_bool hg1) (by decide) _ (y_field rfl Tryz.underlying25 rfl sz22_v16 (by decide) rfl (rfl : (⟨_, 0 + _, none⟩ : Addr) = ⟨_, 0, none⟩)) (fun a hF => ?_)
        refine vc_yg hF rfl rfl rfl rfl (some_bool hg1) (by decide) _ (y_ld rfl hA8.q rfl 1 rfl rfl nr22_v16) (fun a hF => ?_)
        refine vc_yg hF rfl rfl rfl rfl (some_bool hg1) (by decide) _ (y_cmp rfl rfl rfl rfl rfl) (fun a hF => ?_)
        refine vc_y hF rfl rfl (by decide) _ (y_pickF hg1 rfl rfl rfl) (fun a hF => ?_)
        exact hJ1 _ ((hF.keep [23, 0, 1, 2, 3, 7, 8, 4, 9, 10, 12, 13, 14, 15, 5] (F' := [(23, _), (0, _), (1, _), (2, _), (3, _), (7, _), (8, _), (4, _), (9, _), (10, _), (12, _), (13, _), (14, _), (15, _), (5, _)]) rfl).bool (by rw [hg1]; rfl))
      · refine vc_skip hF rfl rfl rfl rfl rfl (ne_want hg1) (by decide) (fun a hF => ?_)
        refine vc_skip hF rfl rfl rfl rfl rfl (ne_want hg1) (by decide) (fun a hF => ?_)
        refine vc_skip hF rfl rfl rfl rfl rfl (ne_want hg1) (by decide) (fun a hF => ?_)
        refine vc_y hF rfl rfl (by decide) _ (y_pickT hg1 rfl rfl rfl) (fun a hF => ?_)
        exact hJ1 _ ((hF.keep [23, 0, 1, 2, 3, 7, 8, 4, 9, 10, 12, 13, 14, 15, 5] (F' := [(23, _), (0, _), (1, _), (2, _), (3, _), (7, _), (8, _), (4, _), (9, _), (10, _), (12, _), (13, _), (14, _), (15, _), (5, _)]) rfl).bool (by rw [hg1]; rfl))
    refine vc_nil ?_
    refine hK7 _ _ ?_; clear  hK7 K7
    have hB0 : Buf 5 1 [row b6 5 (dc [b0])] (.slice (some ⟨b6, 0, none⟩) 1 1) [b0].length (dc [b0]) := Buf.full rfl (by decide)
    have hJ : ∀ (a : Act) (x : World) (v5 : Value) (X5 : Seg), Buf 5 1 X5 v5 va.v.bytes.length (dc va.v.bytes) → Fr 71 [(5, v5)] a → Hp w0 (X5 :: R) x → K6 a x := by
      clear hF
      intro a x v5 X5 hB5 hF hA
      refine hK6 _ _ ?_; clear  hK6 K6
      apply wp_seq_k; intro K8 hK8
      refine wp_region_lit ?_
      refine vc_y hF rfl rfl (by decide) _ (y_move rfl rfl) (fun a hF => ?_)
      refine vc_y hF rfl rfl (by decide) _ (y_assign rfl rfl) (fun a hF => ?_)
      refine vc_y hF rfl rfl (by decide) _ (y_assign rfl rfl) (fun a hF => ?_)
      refine vc_nil ?_
      refine hK8 _ _ ?_; clear  hK8 K8
      apply wp_ret
      refine vc_ret2 hF Tryz.results49 rfl rfl ?_
      exact ⟨v5, X5, by rw [hr0]; rfl, by rw [show va.v.put = va.v.bytes from if_pos hr0]; exact hB5, hA⟩
    by_cases hk1 : va.v.k = 1
    · refine vc_trueB hF rfl (by simp [cmpB, hk1]) ?_
      refine wp_region_lit ?_
      refine vc_y hF rfl rfl (by decide) _ (y_move rfl rfl) (fun a hF => ?_)
      refine vc_y hF rfl rfl (by decide) _ (y_field rfl Tryz.underlying25 rfl sz3_v16 (by decide) rfl (rfl : (⟨_, 0 + _, none⟩ : Addr) = ⟨_, 1, none⟩)) (fun a hF => ?_)
      refine vc_y hF rfl rfl (by decide) _ (y_ld rfl hA8.q rfl 1 rfl rfl nr3_v16) (fun a hF => ?_)
      refine vc_op rfl (fun K hK => ws_call hF rfl (by decide) cl108_v16 rfl rfl ?_)
      with_reducible refine (rv_number va.v.n 8 8 _ rfl (by decide) hA8 ).mono ?_
      rintro e' w9 ⟨vN1, ZN1, rfl, hN1, hA10⟩
      refine ⟨_, rfl, fun a hF => hK _ _ ?_⟩
      clear hK K
      replace hA10 : Hp w0 (ZN1 :: [row b6 5 (dc [b0])] :: [row b1 25 [.int .i64 va.v.k, .int .i64 va.v.n, strV va.v.t, .slice va.sA va.v.s.length va.sC]] :: R) w9 := hA10
      obtain ⟨_, AN1, cN1, rfl, hcN1, hRN1⟩ := hN1.rd (w0 := w0) (R := [ZN1]) (List.mem_cons_self ..)
      refine vc_op rfl (fun K hK => hs_append hF rfl (by decide) rfl hA10 1 rfl hB0 Tryz.underlying27 ow_elem5 rfl rfl (Rc.src hRN1 (Hq.sub hA10.q (List.cons_subset.2 ⟨((List.mem_cons_self ..)), List.nil_subset _⟩)) Tryz.underlying27) (by rw [be_length, show [b0].length = 1 from rfl]; decide) (by decide) (fun v1 X1 w11 a hB1 hF hA12 => hK _ _ ?_))
      clear hK K
      replace hA12 : Hp w0 (ZN1 :: X1 :: [row b1 25 [.int .i64 va.v.k, .int .i64 va.v.n, strV va.v.t, .slice va.sA va.v.s.length va.sC]] :: R) w11 := hA12
      replace hB1 : Buf 5 1 X1 v1 ([b0] ++ be 8 (u64 va.v.n)).length (dc ([b0] ++ be 8 (u64 va.v.n))) := by rw [List.length_append, dc_append]; exact hB1
      refine vc_y hF rfl rfl (by decide) _ (y_assign rfl rfl) (fun a hF => ?_)
      refine vc_nil ?_
      have hA13 : Hp w0 (X1 :: R) w11 := Hp.sel [ZN1, X1, [row b1 25 [.int .i64 va.v.k, .int .i64 va.v.n, strV va.v.t, .slice va.sA va.v.s.length va.sC]]] R [1] [0, 2] hA12 rfl
      exact hJ _ _ v1 _ (by rw [vby_14 (.inl hk1), hbe]; exact hB1) (hF.keep [5] rfl) hA13
    · by_cases hk4 : va.v.k = 4
      · refine vc_trueB hF rfl (by simp [cmpB, hk4]) ?_
        refine wp_region_lit ?_
        refine vc_y hF rfl rfl (by decide) _ (y_move rfl rfl) (fun a hF => ?_)
        refine vc_y hF rfl rfl (by decide) _ (y_field rfl Tryz.underlying25 rfl sz3_v16 (by decide) rfl (rfl : (⟨_, 0 + _, none⟩ : Addr) = ⟨_, 1, none⟩)) (fun a hF => ?_)
        refine vc_y hF rfl rfl (by decide) _ (y_ld rfl hA8.q rfl 1 rfl rfl nr3_v16) (fun a hF => ?_)
        refine vc_op rfl (fun K hK => ws_call hF rfl (by decide) cl108_v16 rfl rfl ?_)
        with_reducible refine (rv_number va.v.n 8 8 _ rfl (by decide) hA8 ).mono ?_
        rintro e' w14 ⟨vN1, ZN1, rfl, hN1, hA15⟩
        refine ⟨_, rfl, fun a hF => hK _ _ ?_⟩
        clear hK K
        replace hA15 : Hp w0 (ZN1 :: [row b6 5 (dc [b0])] :: [row b1 25 [.int .i64 va.v.k, .int .i64 va.v.n, strV va.v.t, .slice va.sA va.v.s.length va.sC]] :: R) w14 := hA15
        obtain ⟨_, AN1, cN1, rfl, hcN1, hRN1⟩ := hN1.rd (w0 := w0) (R := [ZN1]) (List.mem_cons_self ..)
        refine vc_op rfl (fun K hK => hs_append hF rfl (by decide) rfl hA15 1 rfl hB0 Tryz.underlying27 ow_elem5 rfl rfl (Rc.src hRN1 (Hq.sub hA15.q (List.cons_subset.2 ⟨((List.mem_cons_self ..)), List.nil_subset _⟩)) Tryz.underlying27) (by rw [be_length, show [b0].length = 1 from rfl]; decide) (by decide) (fun v1 X1 w16 a hB1 hF hA17 => hK _ _ ?_))
        clear hK K
        replace hA17 : Hp w0 (ZN1 :: X1 :: [row b1 25 [.int .i64 va.v.k, .int .i64 va.v.n, strV va.v.t, .slice va.sA va.v.s.length va.sC]] :: R) w16 := hA17
        replace hB1 : Buf 5 1 X1 v1 ([b0] ++ be 8 (u64 va.v.n)).length (dc ([b0] ++ be 8 (u64 va.v.n))) := by rw [List.length_append, dc_append]; exact hB1
        refine vc_y hF rfl rfl (by decide) _ (y_assign rfl rfl) (fun a hF => ?_)
        refine vc_nil ?_
        have hA18 : Hp w0 (X1 :: R) w16 := Hp.sel [ZN1, X1, [row b1 25 [.int .i64 va.v.k, .int .i64 va.v.n, strV va.v.t, .slice va.sA va.v.s.length va.sC]]] R [1] [0, 2] hA17 rfl
        exact hJ _ _ v1 _ (by rw [vby_14 (.inr hk4), hbe]; exact hB1) (hF.keep [5] rfl) hA18
      · refine vc_falseB hF rfl (by simp [cmpB, hk1, hk4]) ?_
        apply wp_seq_k; intro K9 hK9
        refine wp_region_lit ?_
        refine vc_y hF rfl rfl (by decide) _ (y_field rfl Tryz.underlying25 rfl sz22_v16 (by decide) rfl (rfl : (⟨_, 0 + _, none⟩ : Addr) = ⟨_, 0, none⟩)) (fun a hF => ?_)
        refine vc_y hF rfl rfl (by decide) _ (y_ld rfl hA8.q rfl 1 rfl rfl nr22_v16) (fun a hF => ?_)
        refine vc_y hF rfl rfl (by decide) _ (y_cmp rfl rfl rfl rfl rfl) (fun a hF => ?_)
        refine vc_nil ?_
        refine hK9 _ _ ?_; clear  hK9 K9
        by_cases hk2 : va.v.k = 2
        · refine vc_trueB hF rfl (by simp [cmpB, hk2]) ?_
          obtain ⟨c0, hc0⟩ : ∃ c0 : UInt8, c0 = if va.v.n = 1 then 1 else 0 := ⟨_, rfl⟩
          refine wp_region_lit ?_
          refine vc_y hF rfl rfl (by decide) _ (y_move rfl rfl) (fun a hF => ?_)
          refine vc_y hF rfl rfl (by decide) _ (y_field rfl Tryz.underlying25 rfl sz3_v16 (by decide) rfl (rfl : (⟨_, 0 + _, none⟩ : Addr) = ⟨_, 1, none⟩)) (fun a hF => ?_)
          refine vc_y hF rfl rfl (by decide) _ (y_ld rfl hA8.q rfl 1 rfl rfl nr3_v16) (fun a hF => ?_)
          refine vc_y hF rfl rfl (by decide) _ (y_conv rfl Tryz.underlying3 Tryz.underlying5 rfl (show IntKind.u8.wrap va.v.n = (c0.toNat : Int) by rw [hc0]; exact nb8 (by rcases hR.k with h | h | h | h | h | h <;> omega))) (fun a hF => ?_)
          refine vc_op rfl (fun K hK => hs_byte1 hF rfl (by decide) rfl hA8 c0 rfl ow_build (fun b19 w20 a hb19 hF hA21 => hK _ _ ?_))
          clear hK K
          replace hA21 : Hp w0 ([row b19 5 (dc [c0])] :: [row b6 5 (dc [b0])] :: [row b1 25 [.int .i64 va.v.k, .int .i64 va.v.n, strV va.v.t, .slice va.sA va.v.s.length va.sC]] :: R) w20 := hA21
          refine vc_op rfl (fun K hK => hs_append hF rfl (by decide) rfl hA21 1 rfl hB0 Tryz.underlying27 ow_elem5 rfl rfl (Rc.src (l := [c0]) (Rc.ofRow (R := [row b19 5 (dc [c0])] :: [row b6 5 (dc [b0])] :: [row b1 25 [.int .i64 va.v.k, .int .i64 va.v.n, strV va.v.t, .slice va.sA va.v.s.length va.sC]] :: R) (i := 0) (off := 0) rfl rfl) hA21.q Tryz.underlying27) (by rw [show [b0].length = 1 from rfl, show [c0].length = 1 from rfl]; decide) (by decide) (fun v1 X1 w22 a hB1 hF hA23 => hK _ _ ?_))
          clear hK K
          replace hA23 : Hp w0 ([row b19 5 (dc [c0])] :: X1 :: [row b1 25 [.int .i64 va.v.k, .int .i64 va.v.n, strV va.v.t, .slice va.sA va.v.s.length va.sC]] :: R) w22 := hA23
          replace hB1 : Buf 5 1 X1 v1 ([b0] ++ [c0]).length (dc ([b0] ++ [c0])) := by rw [List.length_append, dc_append]; exact hB1
          refine vc_y hF rfl rfl (by decide) _ (y_assign rfl rfl) (fun a hF => ?_)
          refine vc_nil ?_
          have hA24 : Hp w0 (X1 :: R) w22 := Hp.sel [[row b19 5 (dc [c0])], X1, [row b1 25 [.int .i64 va.v.k, .int .i64 va.v.n, strV va.v.t, .slice va.sA va.v.s.length va.sC]]] R [1] [0, 2] hA23 rfl
          exact hJ _ _ v1 _ (by rw [vby_2 hk2, hbe, ← hc0]; exact hB1) (hF.keep [5] rfl) hA24
        · refine vc_falseB hF rfl (by simp [cmpB, hk2]) ?_
          apply wp_seq_k; intro K10 hK10
          refine wp_region_lit ?_
          refine vc_y hF rfl rfl (by decide) _ (y_field rfl Tryz.underlying25 rfl sz22_v16 (by decide) rfl (rfl : (⟨_, 0 + _, none⟩ : Addr) = ⟨_, 0, none⟩)) (fun a hF => ?_)
          refine vc_y hF rfl rfl (by decide) _ (y_ld rfl hA8.q rfl 1 rfl rfl nr22_v16) (fun a hF => ?_)
          refine vc_y hF rfl rfl (by decide) _ (y_cmp rfl rfl rfl rfl rfl) (fun a hF => ?_)
          refine vc_nil ?_
          refine hK10 _ _ ?_; clear  hK10 K10
          by_cases hk3 : va.v.k = 3
          · refine vc_trueB hF rfl (by simp [cmpB, hk3]) ?_
            refine wp_region_lit ?_
            refine vc_y hF rfl rfl (by decide) _ (y_move rfl rfl) (fun a hF => ?_)
            refine vc_y hF rfl rfl (by decide) _ (y_field rfl Tryz.underlying25 rfl sz9_v16 (by decide) rfl (rfl : (⟨_, 0 + _, none⟩ : Addr) = ⟨_, 2, none⟩)) (fun a hF => ?_)
            refine vc_y hF rfl rfl (by decide) _ (y_ld rfl hA8.q rfl 1 rfl rfl nr9_v16) (fun a hF => ?_)
            refine vc_op rfl (fun K hK => ws_call hF rfl (by decide) cl109_v16 rfl rfl ?_)
            with_reducible refine (rv_name va.v.t _ (by have := hR.tl; omega) hA8 ).mono ?_
            rintro e' w25 ⟨vN1, ZN1, rfl, hN1, hA26⟩
            refine ⟨_, rfl, fun a hF => hK _ _ ?_⟩
            clear hK K
            replace hA26 : Hp w0 (ZN1 :: [row b6 5 (dc [b0])] :: [row b1 25 [.int .i64 va.v.k, .int .i64 va.v.n, strV va.v.t, .slice va.sA va.v.s.length va.sC]] :: R) w25 := hA26
            obtain ⟨_, AN1, cN1, rfl, hcN1, hRN1⟩ := hN1.rd (w0 := w0) (R := [ZN1]) (List.mem_cons_self ..)
            refine vc_op rfl (fun K hK => hs_append hF rfl (by decide) rfl hA26 1 rfl hB0 Tryz.underlying27 ow_elem5 rfl rfl (Rc.src hRN1 (Hq.sub hA26.q (List.cons_subset.2 ⟨((List.mem_cons_self ..)), List.nil_subset _⟩)) Tryz.underlying27) (by have := hR.tl; rw [nameB_len, show [b0].length = 1 from rfl]; omega) (by decide) (fun v1 X1 w27 a hB1 hF hA28 => hK _ _ ?_))
            clear hK K
            replace hA28 : Hp w0 (ZN1 :: X1 :: [row b1 25 [.int .i64 va.v.k, .int .i64 va.v.n, strV va.v.t, .slice va.sA va.v.s.length va.sC]] :: R) w27 := hA28
            replace hB1 : Buf 5 1 X1 v1 ([b0] ++ nameB va.v.t).length (dc ([b0] ++ nameB va.v.t)) := by rw [List.length_append, dc_append]; exact hB1
            refine vc_y hF rfl rfl (by decide) _ (y_assign rfl rfl) (fun a hF => ?_)
            refine vc_nil ?_
            have hA29 : Hp w0 (X1 :: R) w27 := Hp.sel [ZN1, X1, [row b1 25 [.int .i64 va.v.k, .int .i64 va.v.n, strV va.v.t, .slice va.sA va.v.s.length va.sC]]] R [1] [0, 2] hA28 rfl
            exact hJ _ _ v1 _ (by rw [vby_3 hk3, hbe]; exact hB1) (hF.keep [5] rfl) hA29
          · refine vc_falseB hF rfl (by simp [cmpB, hk3]) ?_
            apply wp_seq_k; intro K11 hK11
            refine wp_region_lit ?_
            refine vc_y hF rfl rfl (by decide) _ (y_field rfl Tryz.underlying25 rfl sz22_v16 (by decide) rfl (rfl : (⟨_, 0 + _, none⟩ : Addr) = ⟨_, 0, none⟩)) (fun a hF => ?_)
            refine vc_y hF rfl rfl (by decide) _ (y_ld rfl hA8.q rfl 1 rfl rfl nr22_v16) (fun a hF => ?_)
            refine vc_y hF rfl rfl (by decide) _ (y_cmp rfl rfl rfl rfl rfl) (fun a hF => ?_)
            refine vc_nil ?_
            refine hK11 _ _ ?_; clear  hK11 K11
            by_cases hk5 : va.v.k = 5
            · refine vc_trueB hF rfl (by simp [cmpB, hk5]) ?_
              have hsl := hR.sl
              have hml := hR.ml
              apply wp_seq_k; intro K12 hK12
              refine wp_region_lit ?_
              refine vc_y hF rfl rfl (by decide) _ (y_move rfl rfl) (fun a hF => ?_)
              refine vc_y hF rfl rfl (by decide) _ (y_field rfl Tryz.underlying25 rfl sz23_v16 (by decide) rfl (rfl : (⟨_, 0 + _, none⟩ : Addr) = ⟨_, 3, none⟩)) (fun a hF => ?_)
              refine vc_y hF rfl rfl (by decide) _ (y_ld rfl hA8.q rfl 1 rfl rfl nr23_v16) (fun a hF => ?_)
              refine vc_y hF rfl rfl (by decide) _ (y_lenSl rfl Tryz.underlying23 rfl rfl) (fun a hF => ?_)
              refine vc_op rfl (fun K hK => ws_call hF rfl (by decide) cl108_v16 rfl rfl ?_)
              with_reducible refine (rv_number (va.v.s.length : Int) 2 2 _ rfl (by decide) hA8 ).mono ?_
              rintro e' w30 ⟨vN1, ZN1, rfl, hN1, hA31⟩
              refine ⟨_, rfl, fun a hF => hK _ _ ?_⟩
              clear hK K
              replace hA31 : Hp w0 (ZN1 :: [row b6 5 (dc [b0])] :: [row b1 25 [.int .i64 va.v.k, .int .i64 va.v.n, strV va.v.t, .slice va.sA va.v.s.length va.sC]] :: R) w30 := hA31
              obtain ⟨_, AN1, cN1, rfl, hcN1, hRN1⟩ := hN1.rd (w0 := w0) (R := [ZN1]) (List.mem_cons_self ..)
              refine vc_op rfl (fun K hK => hs_append hF rfl (by decide) rfl hA31 1 rfl hB0 Tryz.underlying27 ow_elem5 rfl rfl (Rc.src hRN1 (Hq.sub hA31.q (List.cons_subset.2 ⟨((List.mem_cons_self ..)), List.nil_subset _⟩)) Tryz.underlying27) (by rw [be_length, show [b0].length = 1 from rfl]; decide) (by decide) (fun v1 X1 w32 a hB1 hF hA33 => hK _ _ ?_))
              clear hK K
              replace hA33 : Hp w0 (ZN1 :: X1 :: [row b1 25 [.int .i64 va.v.k, .int .i64 va.v.n, strV va.v.t, .slice va.sA va.v.s.length va.sC]] :: R) w32 := hA33
              replace hB1 : Buf 5 1 X1 v1 ([b0] ++ be 2 (u64 (va.v.s.length : Int))).length (dc ([b0] ++ be 2 (u64 (va.v.s.length : Int)))) := by rw [List.length_append, dc_append]; exact hB1
              refine vc_y hF rfl rfl (by decide) _ (y_assign rfl rfl) (fun a hF => ?_)
              refine vc_nil ?_
              refine hK12 _ _ ?_; clear  hK12 K12
              apply wp_seq_k; intro K13 hK13
              refine wp_region_lit ?_
              refine vc_y hF rfl rfl (by decide) _ (y_assign rfl rfl) (fun a hF => ?_)
              refine vc_nil ?_
              refine hK13 _ _ ?_; clear  hK13 K13
              apply wp_block
              rw [u64_len (show va.v.s.length < 140737488353900 by omega)] at hB1
              have hA34 : Hp w0 (X1 :: [row b1 25 [.int .i64 va.v.k, .int .i64 va.v.n, strV va.v.t, .slice va.sA va.v.s.length va.sC]] :: R) w32 := Hp.sel [ZN1, X1, [row b1 25 [.int .i64 va.v.k, .int .i64 va.v.n, strV va.v.t, .slice va.sA va.v.s.length va.sC]]] R [1, 2] [0] hA33 rfl
              refine vc_loop (G := Nat) (fun i a x => ∃ (vL : Value) (XL : Seg), i ≤ va.v.s.length ∧ Buf 5 1 XL vL ([b0] ++ be 2 va.v.s.length ++ tflat (va.v.s.take i)).length (dc ([b0] ++ be 2 va.v.s.length ++ tflat (va.v.s.take i))) ∧ Fr 71 [(6, .int .i64 (i : Int)), (5, vL), (1, .pointer (some ⟨b1, 0, none⟩))] a ∧ Hp w0 (XL :: [row b1 25 [.int .i64 va.v.k, .int .i64 va.v.n, strV va.v.t, .slice va.sA va.v.s.length va.sC]] :: R) x) (fun i => va.v.s.length - i) 0 (⟨_, _, Nat.zero_le _, (by rw [List.take_zero, tflat_nil, List.append_nil]; exact hB1), hF.keep [6, 5, 1] rfl, hA34⟩) ?_
              clear hF
              rintro i a w36 ⟨vL, XL, hi, hB2, hF, hA35⟩
              apply wp_seq_k; intro K14 hK14
              apply wp_seq_k; intro K15 hK15
              refine wp_region_lit ?_
              refine vc_y hF rfl rfl (by decide) _ (y_move rfl rfl) (fun a hF => ?_)
              refine vc_y hF rfl rfl (by decide) _ (y_field rfl Tryz.underlying25 rfl sz23_v16 (by decide) rfl (rfl : (⟨_, 0 + _, none⟩ : Addr) = ⟨_, 3, none⟩)) (fun a hF => ?_)
              refine vc_y hF rfl rfl (by decide) _ (y_ld rfl hA35.q rfl 1 rfl rfl nr23_v16) (fun a hF => ?_)
              refine vc_y hF rfl rfl (by decide) _ (y_lenSl rfl Tryz.underlying23 rfl rfl) (fun a hF => ?_)
              refine vc_y hF rfl rfl (by decide) _ (y_cmp rfl rfl rfl rfl rfl) (fun a hF => ?_)
              refine vc_nil ?_
              refine hK15 _ _ ?_; clear  hK15 K15
              by_cases hlt : i < va.v.s.length
              · refine vc_trueB hF rfl (lss_t (by omega)) ?_
                obtain ⟨q, hp⟩ : ∃ q, va.v.s[i]? = some q := ⟨_, List.getElem?_eq_getElem hlt⟩
                obtain ⟨b, o, hsA, hc⟩ := hV.rc.ne (i := i) (by rw [List.length_map]; exact hlt)
                have hq := hml q (List.mem_of_getElem? hp)
                have hfl := tfl_small hml i
                rw [hsA] at hA35
                apply wp_skip
                refine hK14 _ _ ?_; clear  hK14 K14
                apply wp_seq_k; intro K16 hK16
                apply wp_block
                refine wp_region_lit ?_
                refine vc_y hF rfl rfl (by decide) _ (y_move rfl rfl) (fun a hF => ?_)
                refine vc_y hF rfl rfl (by decide) _ (y_field rfl Tryz.underlying25 rfl sz23_v16 (by decide) rfl (rfl : (⟨_, 0 + _, none⟩ : Addr) = ⟨_, 3, none⟩)) (fun a hF => ?_)
                refine vc_y hF rfl rfl (by decide) _ (y_ld rfl hA35.q rfl 1 rfl rfl nr23_v16) (fun a hF => ?_)
                refine vc_y hF rfl rfl (by decide) _ (y_move rfl rfl) (fun a hF => ?_)
                refine vc_y hF rfl rfl (by decide) _ (y_ixSl rfl Tryz.underlying23 sz9_v16 rfl rfl i rfl hlt (ad2 _ _ _)) (fun a hF => ?_)
                refine vc_y hF rfl rfl (by decide) _ (y_ldC (u := strV q) rfl (Hq.sub hA35.q (List.Subset.trans hG ((subC (subC (sub0)))))) rfl hc i (by rw [List.length_map]; exact hlt) rfl (by rw [List.getElem?_map, hp]; rfl) nr9_v16) (fun a hF => ?_)
                refine vc_op rfl (fun K hK => ws_call hF rfl (by decide) cl109_v16 rfl rfl ?_)
                with_reducible refine (rv_name q _ (by omega) hA35 ).mono ?_
                rintro e' w37 ⟨vN2, ZN2, rfl, hN2, hA38⟩
                refine ⟨_, rfl, fun a hF => hK _ _ ?_⟩
                clear hK K
                replace hA38 : Hp w0 (ZN2 :: XL :: [row b1 25 [.int .i64 va.v.k, .int .i64 va.v.n, strV va.v.t, .slice (some ⟨b, o, none⟩) va.v.s.length va.sC]] :: R) w37 := hA38
                obtain ⟨_, AN2, cN2, rfl, hcN2, hRN2⟩ := hN2.rd (w0 := w0) (R := [ZN2]) (List.mem_cons_self ..)
                refine vc_op rfl (fun K hK => hs_append hF rfl (by decide) rfl hA38 1 rfl hB2 Tryz.underlying27 ow_elem5 rfl rfl (Rc.src hRN2 (Hq.sub hA38.q (List.cons_subset.2 ⟨((List.mem_cons_self ..)), List.nil_subset _⟩)) Tryz.underlying27) (by rw [List.length_append, List.length_append, be_length, nameB_len, show [b0].length = 1 from rfl]; omega) (by decide) (fun v3 X3 w39 a hB3 hF hA40 => hK _ _ ?_))
                clear hK K
                replace hA40 : Hp w0 (ZN2 :: X3 :: [row b1 25 [.int .i64 va.v.k, .int .i64 va.v.n, strV va.v.t, .slice (some ⟨b, o, none⟩) va.v.s.length va.sC]] :: R) w39 := hA40
                replace hB3 : Buf 5 1 X3 v3 (([b0] ++ be 2 va.v.s.length ++ tflat (va.v.s.take i)) ++ nameB q).length (dc (([b0] ++ be 2 va.v.s.length ++ tflat (va.v.s.take i)) ++ nameB q)) := by rw [List.length_append, dc_append]; exact hB3
                refine vc_y hF rfl rfl (by decide) _ (y_assign rfl rfl) (fun a hF => ?_)
                refine vc_nil ?_
                refine hK16 _ _ ?_; clear  hK16 K16
                refine wp_region_lit ?_
                refine vc_y hF rfl rfl (by decide) _ (y_move rfl rfl) (fun a hF => ?_)
                refine vc_y hF rfl rfl (by decide) _ (y_add rfl rfl rfl (IntWalk.i64_in _ (by omega))) (fun a hF => ?_)
                refine vc_y hF rfl rfl (by decide) _ (y_assign rfl rfl) (fun a hF => ?_)
                refine vc_nil ?_
                rw [← hsA] at hA40
                have hA41 : Hp w0 (X3 :: [row b1 25 [.int .i64 va.v.k, .int .i64 va.v.n, strV va.v.t, .slice va.sA va.v.s.length va.sC]] :: R) w39 := Hp.sel [ZN2, X3, [row b1 25 [.int .i64 va.v.k, .int .i64 va.v.n, strV va.v.t, .slice va.sA va.v.s.length va.sC]]] R [1, 2] [0] hA40 rfl
                exact ⟨i + 1, by omega, _, _, by omega, by rw [tflat_take hp, ← List.append_assoc]; exact hB3, hF.keep [6, 5, 1] rfl, hA41⟩
              · refine vc_falseB hF rfl (lss_f (by omega)) ?_
                obtain rfl : i = va.v.s.length := by omega
                rw [List.take_length, List.append_assoc] at hB2
                apply wp_exit
                have hA42 : Hp w0 (XL :: R) w36 := Hp.sel [XL, [row b1 25 [.int .i64 va.v.k, .int .i64 va.v.n, strV va.v.t, .slice va.sA va.v.s.length va.sC]]] R [0] [1] hA35 rfl
                exact hJ _ _ vL _ (by rw [vby_5 hk5, hbe]; exact hB2) (hF.keep [5] rfl) hA42
            · refine vc_falseB hF rfl (by simp [cmpB, hk5]) ?_
              apply wp_skip
              have hA43 : Hp w0 ([row b6 5 (dc [b0])] :: R) w7 := Hp.sel [[row b6 5 (dc [b0])], [row b1 25 [.int .i64 va.v.k, .int .i64 va.v.n, strV va.v.t, .slice va.sA va.v.s.length va.sC]]] R [0] [1] hA8 rfl
              exact hJ _ _ _ _ (by rw [vby_0 (by omega), hbe]; exact hB0) (hF.keep [5] rfl) hA43
  · refine vc_trueB hF rfl (neq_t (by omega)) ?_
    apply wp_seq_k; intro K17 hK17
    refine wp_region_lit ?_
    refine vc_y hF rfl rfl (by decide) _ (y_move rfl rfl) (fun a hF => ?_)
    refine vc_y hF rfl rfl (by decide) _ (y_assign rfl rfl) (fun a hF => ?_)
    refine vc_y hF rfl rfl (by decide) _ (y_assign rfl rfl) (fun a hF => ?_)
    refine vc_nil ?_
    refine hK17 _ _ ?_; clear  hK17 K17
    apply wp_ret
    simp only [Exit.then]
    refine vc_ret2 hF Tryz.results49 rfl rfl ?_
    have hA44 : Hp w0 (R) w4 := Hp.sel [[row b1 25 [.int .i64 va.v.k, .int .i64 va.v.n, strV va.v.t, .slice va.sA va.v.s.length va.sC]]] R [] [0] hA5 rfl
    exact ⟨_, [], rfl, by rw [show va.v.put = [] from if_neg hr0]; exact Buf.nil _ _, Hp.nil hA44⟩
section
variable {P : Program} {w w0 : World} {n : Nat} {F : List (Nat × Value)} {a : Act} {L : List Row} {R : List Seg}
theorem results_ctt {fn : Func} {t u s : Tmp} {ty : TypeId} (h : fn.results = #[.cell u ty, .tmp t, .tmp s]) {tmps : Array Value} (hA : At w0 L w) {g : Nat} (hx : tmps.getD u undef = .pointer (some ⟨g, 0, none⟩))
    (k : Nat) {te : TypeId} {cs : List Value} (hk : L[k]? = some (g, te, cs)) (hr : isRow P ty cs.length = true) : (results fn tmps).run P w = .ok (.tuple #[.agg cs.toArray, tmps.getD t undef, tmps.getD s undef]) w := by
  obtain ⟨d, hu, hd, hi⟩ := isRow_spec hr
  have h1 := run_loadVar_mid (P := P) w g 0 ty cs d (by simpa using hA.range hk 0 cs.length) hu hd hi
  have hx' : tmps[u]?.getD undef = .pointer (some ⟨g, 0, none⟩) := by simpa using hx
  simp [results, h, hx', h1, asAddr]
theorem vc_retCTT {fn : Func} {RR : Ending → World → Prop} {t u s : Tmp} {ty te : TypeId} {g : Nat} {cs : List Value} {T : Seg} {v x : Value} (hF : Fr n F a) (hr : fn.results = #[.cell u ty, .tmp t, .tmp s]) (hA : Hq w0 R w) (hl2 : Go.Dk.look F u = some (.pointer (some ⟨g, 0, none⟩))) (hl : Go.Dk.look F t = some v) (hl3 : Go.Dk.look F s = some x)
    (k : Nat) (hk : nth R k = some (row g te cs :: T)) (hrow : isRow P ty cs.length = true) (h : RR (.returned (.tuple #[.agg cs.toArray, v, x])) w) : bodyPost P fn RR .ret a w :=
  bodyPost_ret (results_ctt hr (At.start1 (hA.rowAt hk)) (hF.at hl2) 0 rfl hrow) hF.defers (by rw [hF.at hl, hF.at hl3]; exact h)
end
theorem gotVal_nil : gotVal [] 0 0 = ⟨noVal, 0, 8⟩ := by rfl
theorem num_one (b : UInt8) (r : List UInt8) : got (numR 1) 0 (b :: r) 0 0 = ⟨b.toNat, 1, 0⟩ := by
  have h := got_num (K := 1) (n := b.toNat) (l := b :: r) (s := r) (p := 0) b.toNat_lt (by rw [be_one, UInt8.ofNat_toNat]; rfl)
  rw [h.1, be_length]
theorem pl_no {α : Type} {r : Res α} (h : r.why 0 ≠ 0) : r.pl 0 0 = 0 := by
  cases r with
  | ok v k => exact absurd rfl h
  | no e => rfl
theorem pl_one {α : Type} (r : Res α) : r.pl 1 0 = 1 + r.pl 0 0 := by
  cases r with
  | ok v k => show 1 + k = 1 + (0 + k); omega
  | no e => rfl
theorem got_1 {α : Type} (r : List UInt8 → Res α) (d : α) (b : UInt8) (l : List UInt8) : got r d (b :: l) 1 0 = ⟨(r l).val d 0, 1 + (r l).pl 0 0, (r l).why 0⟩ := by
  unfold got
  rw [show (b :: l).drop 1 = l from rfl, pl_one]
theorem gb_1 {b : UInt8} {r : List UInt8} (h : b.toNat = 1 ∨ b.toNat = 4) : gotBody b.toNat (b :: r) 1 0 = ⟨⟨b.toNat, i64 ((numR 8 r).val 0 0), [], []⟩, 1 + (numR 8 r).pl 0 0, (numR 8 r).why 0⟩ := gotBody_1 h (got_1 (numR 8) 0 b r)
theorem gb_2 {b : UInt8} {r : List UInt8} {f : Bool} (h : b.toNat = 2) (hf : (flagR r).val false 0 = f) : gotBody b.toNat (b :: r) 1 0 = ⟨⟨b.toNat, if f then 1 else 0, [], []⟩, 1 + (flagR r).pl 0 0, (flagR r).why 0⟩ := gotBody_2 h (by rw [got_1 flagR false b r, hf])
theorem gb_3 {b : UInt8} {r : List UInt8} (h : b.toNat = 3) : gotBody b.toNat (b :: r) 1 0 = ⟨⟨b.toNat, 0, (textR r 1024).val [] 0, []⟩, 1 + (textR r 1024).pl 0 0, (textR r 1024).why 0⟩ := gotBody_3 h (got_1 (textR · 1024) [] b r)
theorem gb_5 {b : UInt8} {r : List UInt8} (h : b.toNat = 5) : gotBody b.toNat (b :: r) 1 0 = ⟨⟨b.toNat, 0, [], (textsR r 64 1024).val [] 0⟩, 1 + (textsR r 64 1024).pl 0 0, (textsR r 64 1024).why 0⟩ := gotBody_5 h (got_1 (textsR · 64 1024) [] b r)
theorem gb_0 {b : UInt8} {r : List UInt8} (h : b.toNat = 0 ∨ (¬ b.toNat = 1 ∧ ¬ b.toNat = 4 ∧ ¬ b.toNat = 2 ∧ ¬ b.toNat = 3 ∧ ¬ b.toNat = 5)) : gotBody b.toNat (b :: r) 1 0 = ⟨⟨b.toNat, 0, [], []⟩, 1 + 0, 0⟩ := gotBody_0 h
theorem pl_le {α : Type} {r : Res α} {n : Nat} (h : ∀ v k, r = .ok v k → k ≤ n) : r.pl 0 0 ≤ n := by
  cases hr : r with
  | ok v k => have := h v k hr; show 0 + k ≤ n; omega
  | no e => exact Nat.zero_le _
theorem num_pl (r : List UInt8) (K : Nat) : (numR K r).pl 0 0 ≤ r.length := pl_le fun _ _ h => numR_le h
theorem flag_pl (r : List UInt8) : (flagR r).pl 0 0 ≤ r.length := pl_le fun _ _ h => flagR_le h
theorem text_pl (r : List UInt8) (m : Int) : (textR r m).pl 0 0 ≤ r.length := pl_le fun _ _ h => sizedR_le h
theorem texts_pl (r : List UInt8) : (textsR r 64 1024).pl 0 0 ≤ r.length := pl_le fun _ _ h => textsR_le h
theorem num8_lt (r : List UInt8) : (numR 8 r).val 0 0 < 18446744073709551616 := num_small8 8 r 0 0

set_option maxRecDepth 100000 in
set_option maxHeartbeats 8000000 in
theorem rv_take {w0 : World} {R : List Seg} {G : List Seg} (A : Option Addr) (r : List UInt8) (c : Nat) (w : World) (hR : Rd w0 G A r) (hc : r.length ≤ c) (hl : r.length < 140737488354000) (hG : G ⊆ R) (hA : Hp w0 R w) : Calls Tryz.prog 54 #[.slice A r.length c] w fun e w' => ∃ (va : VA) (Z : Seg), e = .returned (.tuple #[.agg va.cells.toArray, .int .i64 ((gotVal r 0 0).p : Nat), .int .i64 ((gotVal r 0 0).y : Nat)]) ∧ va.v = (gotVal r 0 0).v ∧ va.Ok w0 [Z] ∧ (gotVal r 0 0).p ≤ r.length ∧ Hp w0 (Z :: R) w' := by
  refine vc_enter Tryz.func54 rfl Tryz.ntmps54 (Nat.le_of_ble_eq_true rfl) (fun a hF => ?_)
  apply wp_seq_k; intro K1 hK1
  refine wp_region_lit ?_
  refine vc_op rfl (fun K hK => hs_alloc hF rfl (by decide) rfl hA (zr25_v16) (fun b1 w2 a hb1 hF hA3 => hK _ _ ?_))
  clear hK K
  replace hA3 : Hp w0 ([row b1 25 [.int .i64 0, .int .i64 0, .string (⟨#[]⟩), .slice none 0 0]] :: R) w2 := hA3
  refine vc_y hF rfl rfl (by decide) _ (y_assign rfl rfl) (fun a hF => ?_)
  refine vc_y hF rfl rfl (by decide) _ (y_assign rfl rfl) (fun a hF => ?_)
  refine vc_nil ?_
  refine hK1 _ _ ?_; clear  hK1 K1
  apply wp_seq_k; intro K2 hK2
  apply wp_seq_k; intro K3 hK3
  refine wp_region_lit ?_
  refine vc_y hF rfl rfl (by decide) _ (y_move rfl rfl) (fun a hF => ?_)
  refine vc_y hF rfl rfl (by decide) _ (y_lenSl rfl Tryz.underlying27 rfl rfl) (fun a hF => ?_)
  refine vc_y hF rfl rfl (by decide) _ (y_cmp rfl rfl rfl rfl rfl) (fun a hF => ?_)
  refine vc_nil ?_
  refine hK3 _ _ ?_; clear  hK3 K3
  by_cases h0 : r.length = 0
  · obtain rfl : r = [] := List.length_eq_zero_iff.1 h0
    refine vc_trueB hF rfl (eql_t rfl) ?_
    apply wp_seq_k; intro K4 hK4
    refine wp_region_lit ?_
    refine vc_y hF rfl rfl (by decide) _ (y_build0 rfl ev_bV0) (fun a hF => ?_)
    refine vc_op rfl (fun K hK => hs_storeAll (new := [.int .i64 0, .int .i64 0, strV [], .slice none 0 0]) hF rfl rfl hA3 rfl rfl 0 rfl rfl (by simp [Value.oneCell']) sz25_v16 (fun w4 hA5 => hK _ _ ?_))
    clear hK K
    replace hA5 : Hp w0 ([row b1 25 [.int .i64 0, .int .i64 0, strV [], .slice none 0 0]] :: R) w4 := hA5
    refine vc_y hF rfl rfl (by decide) _ (y_assign rfl rfl) (fun a hF => ?_)
    refine vc_y hF rfl rfl (by decide) _ (y_assign rfl rfl) (fun a hF => ?_)
    refine vc_nil ?_
    refine hK4 _ _ ?_; clear  hK4 K4
    apply wp_ret
    simp only [Exit.then]
    refine vc_retCTT hF Tryz.results54 hA5.q rfl rfl rfl 0 rfl rw25_v16 ?_
    have hA6 : Hp w0 (R) w4 := Hp.sel [[row b1 25 [.int .i64 0, .int .i64 0, strV [], .slice none 0 0]]] R [] [0] hA5 rfl
    exact ⟨noVA, [], by rw [gotVal_nil]; rfl, by rw [gotVal_nil]; rfl, noVA_ok, by rw [gotVal_nil]; exact Nat.le_refl _, (Hp.nil hA6)⟩
  · refine vc_falseB hF rfl (eql_f (by omega)) ?_
    obtain ⟨b0, r1, rfl⟩ : ∃ b0 r1, r = b0 :: r1 := by
      cases r with
      | nil => exact absurd rfl h0
      | cons b l => exact ⟨b, l, rfl⟩
    obtain ⟨bx, ox, hAx, hcx⟩ := hR.ne (i := 0) (Nat.succ_pos _)
    have hFn := hF
    subst hAx
    have hF := hFn
    clear hFn
    have hb0 := b0.toNat_lt
    have hc1 : r1.length + 1 ≤ c := hc
    have hR1 : Rd w0 G (sub (some ⟨bx, ox, none⟩) 1 c 1) r1 := Rd.drop hR 1 hc
    have hl1 : r1.length < 140737488354000 := by rw [List.length_cons] at hl; omega
    have hg1 : got (numR 1) 0 (b0 :: r1) 0 0 = ⟨b0.toNat, 1, 0⟩ := num_one b0 r1
    apply wp_skip
    refine hK2 _ _ ?_; clear  hK2 K2
    apply wp_seq_k; intro K5 hK5
    refine wp_region_lit ?_
    refine vc_y hF rfl rfl (by decide) _ (y_move rfl rfl) (fun a hF => ?_)
    refine vc_y hF rfl rfl (by decide) _ (y_ixSl rfl Tryz.underlying27 sz5_v16 rfl rfl 0 rfl (Nat.succ_pos _) rfl) (fun a hF => ?_)
    refine vc_y hF rfl rfl (by decide) _ (y_ldC (u := .int .u8 (b0.toNat : Int)) rfl (Hq.sub hA3.q (List.Subset.trans hG ((subC (sub0))))) rfl hcx 0 (Nat.succ_pos _) rfl rfl nr5_v16) (fun a hF => ?_)
    refine vc_y hF rfl rfl (by decide) _ (y_conv rfl Tryz.underlying5 Tryz.underlying22 rfl (IntWalk.i64_in _ (by omega))) (fun a hF => ?_)
    refine vc_y hF rfl rfl (by decide) _ (y_build (qs := #[(0, .int .i64 ((b0.toNat : Nat) : Int))]) rfl rfl (ev_bV _)) (fun a hF => ?_)
    refine vc_op rfl (fun K hK => hs_alloc hF rfl (by decide) rfl hA3 (zr25_v16) (fun b7 w8 a hb7 hF hA9 => hK _ _ ?_))
    clear hK K
    replace hA9 : Hp w0 ([row b7 25 [.int .i64 0, .int .i64 0, .string (⟨#[]⟩), .slice none 0 0]] :: [row b1 25 [.int .i64 0, .int .i64 0, .string (⟨#[]⟩), .slice none 0 0]] :: R) w8 := hA9
    refine vc_op rfl (fun K hK => hs_storeAll (new := [.int .i64 ((b0.toNat : Nat) : Int), .int .i64 0, strV [], .slice none 0 0]) hF rfl rfl hA9 rfl rfl 0 rfl rfl (by simp [Value.oneCell']) sz25_v16 (fun w10 hA11 => hK _ _ ?_))
    clear hK K
    replace hA11 : Hp w0 ([row b7 25 [.int .i64 ((b0.toNat : Nat) : Int), .int .i64 0, strV [], .slice none 0 0]] :: [row b1 25 [.int .i64 0, .int .i64 0, .string (⟨#[]⟩), .slice none 0 0]] :: R) w10 := hA11
    refine vc_nil ?_
    refine hK5 _ _ ?_; clear  hK5 K5
    apply wp_seq_k; intro K6 hK6
    refine wp_region_lit ?_
    refine vc_y hF rfl rfl (by decide) _ (y_assign rfl rfl) (fun a hF => ?_)
    refine vc_nil ?_
    refine hK6 _ _ ?_; clear  hK6 K6
    apply wp_seq_k; intro K7 hK7
    refine wp_region_lit ?_
    refine vc_y hF rfl rfl (by decide) _ (y_assign rfl rfl) (fun a hF => ?_)
    refine vc_nil ?_
    refine hK7 _ _ ?_; clear  hK7 K7
    apply wp_seq_k; intro K8 hK8
    apply wp_seq_k; intro K9 hK9
    refine wp_region_lit ?_
    refine vc_y hF rfl rfl (by decide) _ (y_field rfl Tryz.underlying25 rfl sz22_v16 (by decide) rfl (rfl : (⟨_, 0 + _, none⟩ : Addr) = ⟨_, 0, none⟩)) (fun a hF => ?_)
    refine vc_y hF rfl rfl (by decide) _ (y_ld rfl hA11.q rfl 0 rfl rfl nr22_v16) (fun a hF => ?_)
    refine vc_y hF rfl rfl (by decide) _ (y_cmp rfl rfl rfl rfl rfl) (fun a hF => ?_)
    refine vc_y hF rfl rfl (by decide) _ (y_move rfl rfl) (fun a hF => ?_)
    refine vc_meet (l2 := ?lA1) hF [(26, .bool ((cmpB .eql (((b0.toNat : Nat) : Int)) (1)) || (cmpB .eql (((b0.toNat : Nat) : Int)) (4)))), (2, .pointer (some ⟨b1, 0, none⟩)), (0, .slice (some ⟨bx, ox, none⟩) ((b0 :: r1).length) c), (14, .slice (some ⟨bx, ox, none⟩) ((b0 :: r1).length) c), (16, .int .u8 ((b0.toNat : Nat) : Int)), (17, .int .i64 ((b0.toNat : Nat) : Int)), (18, .agg ([.int .i64 ((b0.toNat : Nat) : Int), .int .i64 0, strV [], .slice none 0 0]).toArray), (5, .pointer (some ⟨b7, 0, none⟩)), (6, .int .i64 0), (7, .int .i64 0)] (fun hJ1 => ?elA1) (fun a hF => ?flA1)
    case elA1 =>
      rcases tf (cmpB .eql (((b0.toNat : Nat) : Int)) (1)) with hg1 | hg1
      · refine vc_yg hF rfl rfl rfl rfl (some_bool hg1) (by decide) _ (y_field rfl Tryz.underlying25 rfl sz22_v16 (by decide) rfl (rfl : (⟨_, 0 + _, none⟩ : Addr) = ⟨_, 0, none⟩)) (fun a hF => ?_)
        refine vc_yg hF rfl rfl rfl rfl (some_bool hg1) (by decide) _ (y_ld rfl hA11.q rfl 0 rfl rfl nr22_v16) (fun a hF => ?_)
        refine vc_yg hF rfl rfl rfl rfl (some_bool hg1) (by decide) _ (y_cmp rfl rfl rfl rfl rfl) (fun a hF => ?_)
        refine vc_y hF rfl rfl (by decide) _ (y_pickF hg1 rfl rfl rfl) (fun a hF => ?_)
        exact hJ1 _ ((hF.keep [26, 2, 0, 14, 16, 17, 18, 5, 6, 7] (F' := [(26, _), (2, _), (0, _), (14, _), (16, _), (17, _), (18, _), (5, _), (6, _), (7, _)]) rfl).bool (by rw [hg1]; rfl))
      · refine vc_skip hF rfl rfl rfl rfl rfl (ne_want hg1) (by decide) (fun a hF => ?_)
        refine vc_skip hF rfl rfl rfl rfl rfl (ne_want hg1) (by decide) (fun a hF => ?_)
        refine vc_skip hF rfl rfl rfl rfl rfl (ne_want hg1) (by decide) (fun a hF => ?_)
        refine vc_y hF rfl rfl (by decide) _ (y_pickT hg1 rfl rfl rfl) (fun a hF => ?_)
        exact hJ1 _ ((hF.keep [26, 2, 0, 14, 16, 17, 18, 5, 6, 7] (F' := [(26, _), (2, _), (0, _), (14, _), (16, _), (17, _), (18, _), (5, _), (6, _), (7, _)]) rfl).bool (by rw [hg1]; rfl))
    refine vc_nil ?_
    refine hK9 _ _ ?_; clear  hK9 K9
    have hJ : ∀ (a : Act) (x : World) (vb : VA) (Z : Seg) (k1 kp e1 : Nat), gotBody b0.toNat (b0 :: r1) 1 0 = ⟨vb.v, 1 + kp, e1⟩ → vb.Ok w0 [Z] → (e1 = 0 → k1 = kp) → (e1 ≠ 0 → kp = 0) → kp ≤ r1.length → True → Fr 84 [(6, .int .i64 (k1 : Nat)), (7, .int .i64 (e1 : Nat)), (2, .pointer (some ⟨b1, 0, none⟩)), (5, .pointer (some ⟨b7, 0, none⟩))] a → Hp w0 (Z :: [row b7 25 [.int .i64 vb.v.k, .int .i64 vb.v.n, strV vb.v.t, .slice vb.sA vb.v.s.length vb.sC]] :: [row b1 25 [.int .i64 0, .int .i64 0, .string (⟨#[]⟩), .slice none 0 0]] :: R) x → K8 a x := by
      clear hF
      intro a x vb Z k1 kp e1 hg2 hb hk1 hk0 hkp _ hF hA
      by_cases he : e1 = 0
      · subst he
        obtain rfl := hk1 rfl
        refine hK8 _ _ ?_; clear  hK8 K8
        apply wp_seq_k; intro K10 hK10
        apply wp_seq_k; intro K11 hK11
        refine wp_region_lit ?_
        refine vc_y hF rfl rfl (by decide) _ (y_move rfl rfl) (fun a hF => ?_)
        refine vc_y hF rfl rfl (by decide) _ (y_cmp rfl rfl rfl rfl (neq_f rfl)) (fun a hF => ?_)
        refine vc_nil ?_
        refine hK11 _ _ ?_; clear  hK11 K11
        refine vc_falseB hF rfl rfl ?_
        apply wp_skip
        refine hK10 _ _ ?_; clear  hK10 K10
        apply wp_seq_k; intro K12 hK12
        apply wp_seq_k; intro K13 hK13
        refine wp_region_lit ?_
        refine vc_y hF rfl rfl (by decide) _ (y_ldRow (new := [.int .i64 vb.v.k, .int .i64 vb.v.n, strV vb.v.t, .slice vb.sA vb.v.s.length vb.sC]) rfl hA.q rfl 1 rfl rw25_v16 (Nat.le_of_ble_eq_true rfl) rfl) (fun a hF => ?_)
        refine vc_op rfl (fun K hK => ws_call hF rfl (by decide) cl107_v16 rfl rfl ?_)
        with_reducible refine (rv_right vb _ hb (List.cons_subset.2 ⟨((List.mem_cons_self ..)), List.nil_subset _⟩) hA ).mono ?_
        rintro e' w12 ⟨rfl, hA13⟩
        refine ⟨_, rfl, fun a hF => hK _ _ ?_⟩
        clear hK K
        replace hA13 : Hp w0 (Z :: [row b7 25 [.int .i64 vb.v.k, .int .i64 vb.v.n, strV vb.v.t, .slice vb.sA vb.v.s.length vb.sC]] :: [row b1 25 [.int .i64 0, .int .i64 0, .string (⟨#[]⟩), .slice none 0 0]] :: R) w12 := hA13
        refine vc_y hF rfl rfl (by decide) _ (y_cmp rfl rfl rfl rfl rfl) (fun a hF => ?_)
        refine vc_nil ?_
        refine hK13 _ _ ?_; clear  hK13 K13
        by_cases hr : vb.v.right = 0
        · refine vc_falseB hF rfl (neq_f (by omega)) ?_
          apply wp_skip
          refine hK12 _ _ ?_; clear  hK12 K12
          apply wp_seq_k; intro K14 hK14
          refine wp_region_lit ?_
          refine vc_y hF rfl rfl (by decide) _ (y_ldRow (new := [.int .i64 vb.v.k, .int .i64 vb.v.n, strV vb.v.t, .slice vb.sA vb.v.s.length vb.sC]) rfl hA13.q rfl 1 rfl rw25_v16 (Nat.le_of_ble_eq_true rfl) rfl) (fun a hF => ?_)
          refine vc_y hF rfl rfl (by decide) _ (y_move rfl rfl) (fun a hF => ?_)
          refine vc_y hF rfl rfl (by decide) _ (y_add rfl rfl rfl (show IntKind.i64.wrap (1 + ((k1 : Nat) : Int)) = ((1 + k1 : Nat) : Int) by rw [IntWalk.i64_in _ (by omega)]; omega)) (fun a hF => ?_)
          refine vc_op rfl (fun K hK => hs_storeAll (new := [.int .i64 vb.v.k, .int .i64 vb.v.n, strV vb.v.t, .slice vb.sA vb.v.s.length vb.sC]) hF rfl rfl hA13 rfl rfl 2 rfl rfl (by simp [Value.oneCell']) sz25_v16 (fun w14 hA15 => hK _ _ ?_))
          clear hK K
          replace hA15 : Hp w0 (Z :: [row b7 25 [.int .i64 vb.v.k, .int .i64 vb.v.n, strV vb.v.t, .slice vb.sA vb.v.s.length vb.sC]] :: [row b1 25 [.int .i64 vb.v.k, .int .i64 vb.v.n, strV vb.v.t, .slice vb.sA vb.v.s.length vb.sC]] :: R) w14 := hA15
          refine vc_y hF rfl rfl (by decide) _ (y_assign rfl rfl) (fun a hF => ?_)
          refine vc_y hF rfl rfl (by decide) _ (y_assign rfl rfl) (fun a hF => ?_)
          refine vc_nil ?_
          refine hK14 _ _ ?_; clear  hK14 K14
          apply wp_ret
          refine vc_retCTT hF Tryz.results54 hA15.q rfl rfl rfl 2 rfl rw25_v16 ?_
          have hA16 : Hp w0 (Z :: R) w14 := Hp.sel [Z, [row b7 25 [.int .i64 vb.v.k, .int .i64 vb.v.n, strV vb.v.t, .slice vb.sA vb.v.s.length vb.sC]], [row b1 25 [.int .i64 vb.v.k, .int .i64 vb.v.n, strV vb.v.t, .slice vb.sA vb.v.s.length vb.sC]]] R [0] [1, 2] hA15 rfl
          exact ⟨vb, Z, by rw [gv_a hg1 hg2 hr]; rfl, by rw [gv_a hg1 hg2 hr], hb, by rw [gv_a hg1 hg2 hr]; show 1 + k1 ≤ r1.length + 1; omega, hA16⟩
        · refine vc_trueB hF rfl (neq_t (by omega)) ?_
          apply wp_seq_k; intro K15 hK15
          refine wp_region_lit ?_
          refine vc_y hF rfl rfl (by decide) _ (y_build0 rfl ev_bV0) (fun a hF => ?_)
          refine vc_y hF rfl rfl (by decide) _ (y_move rfl rfl) (fun a hF => ?_)
          refine vc_y hF rfl rfl (by decide) _ (y_add rfl rfl rfl (show IntKind.i64.wrap (1 + ((k1 : Nat) : Int)) = ((1 + k1 : Nat) : Int) by rw [IntWalk.i64_in _ (by omega)]; omega)) (fun a hF => ?_)
          refine vc_op rfl (fun K hK => hs_storeAll (new := [.int .i64 0, .int .i64 0, strV [], .slice none 0 0]) hF rfl rfl hA13 rfl rfl 2 rfl rfl (by simp [Value.oneCell']) sz25_v16 (fun w17 hA18 => hK _ _ ?_))
          clear hK K
          replace hA18 : Hp w0 (Z :: [row b7 25 [.int .i64 vb.v.k, .int .i64 vb.v.n, strV vb.v.t, .slice vb.sA vb.v.s.length vb.sC]] :: [row b1 25 [.int .i64 0, .int .i64 0, strV [], .slice none 0 0]] :: R) w17 := hA18
          refine vc_y hF rfl rfl (by decide) _ (y_assign rfl rfl) (fun a hF => ?_)
          refine vc_y hF rfl rfl (by decide) _ (y_assign rfl rfl) (fun a hF => ?_)
          refine vc_nil ?_
          refine hK15 _ _ ?_; clear  hK15 K15
          apply wp_ret
          simp only [Exit.then]
          refine vc_retCTT hF Tryz.results54 hA18.q rfl rfl rfl 2 rfl rw25_v16 ?_
          have hA19 : Hp w0 (R) w17 := Hp.sel [Z, [row b7 25 [.int .i64 vb.v.k, .int .i64 vb.v.n, strV vb.v.t, .slice vb.sA vb.v.s.length vb.sC]], [row b1 25 [.int .i64 0, .int .i64 0, strV [], .slice none 0 0]]] R [] [0, 1, 2] hA18 rfl
          exact ⟨noVA, [], by rw [gv_b hg1 hg2 hr]; rfl, by rw [gv_b hg1 hg2 hr]; rfl, noVA_ok, by rw [gv_b hg1 hg2 hr]; show 1 + k1 ≤ r1.length + 1; omega, (Hp.nil hA19)⟩
      · obtain rfl := hk0 he
        refine hK8 _ _ ?_; clear  hK8 K8
        apply wp_seq_k; intro K16 hK16
        apply wp_seq_k; intro K17 hK17
        refine wp_region_lit ?_
        refine vc_y hF rfl rfl (by decide) _ (y_move rfl rfl) (fun a hF => ?_)
        refine vc_y hF rfl rfl (by decide) _ (y_cmp rfl rfl rfl rfl (neq_t (by omega))) (fun a hF => ?_)
        refine vc_nil ?_
        refine hK17 _ _ ?_; clear  hK17 K17
        refine vc_trueB hF rfl rfl ?_
        apply wp_seq_k; intro K18 hK18
        refine wp_region_lit ?_
        refine vc_y hF rfl rfl (by decide) _ (y_build0 rfl ev_bV0) (fun a hF => ?_)
        refine vc_y hF rfl rfl (by decide) _ (y_move rfl rfl) (fun a hF => ?_)
        refine vc_op rfl (fun K hK => hs_storeAll (new := [.int .i64 0, .int .i64 0, strV [], .slice none 0 0]) hF rfl rfl hA rfl rfl 2 rfl rfl (by simp [Value.oneCell']) sz25_v16 (fun w20 hA21 => hK _ _ ?_))
        clear hK K
        replace hA21 : Hp w0 (Z :: [row b7 25 [.int .i64 vb.v.k, .int .i64 vb.v.n, strV vb.v.t, .slice vb.sA vb.v.s.length vb.sC]] :: [row b1 25 [.int .i64 0, .int .i64 0, strV [], .slice none 0 0]] :: R) w20 := hA21
        refine vc_y hF rfl rfl (by decide) _ (y_assign rfl rfl) (fun a hF => ?_)
        refine vc_y hF rfl rfl (by decide) _ (y_assign rfl rfl) (fun a hF => ?_)
        refine vc_nil ?_
        refine hK18 _ _ ?_; clear  hK18 K18
        apply wp_ret
        simp only [Exit.then]
        refine vc_retCTT hF Tryz.results54 hA21.q rfl rfl rfl 2 rfl rw25_v16 ?_
        have hA22 : Hp w0 (R) w20 := Hp.sel [Z, [row b7 25 [.int .i64 vb.v.k, .int .i64 vb.v.n, strV vb.v.t, .slice vb.sA vb.v.s.length vb.sC]], [row b1 25 [.int .i64 0, .int .i64 0, strV [], .slice none 0 0]]] R [] [0, 1, 2] hA21 rfl
        exact ⟨noVA, [], by rw [gv_c hg1 hg2 he]; rfl, by rw [gv_c hg1 hg2 he]; rfl, noVA_ok, by rw [gv_c hg1 hg2 he]; show 1 + 0 ≤ r1.length + 1; omega, (Hp.nil hA22)⟩
    by_cases hk1 : b0.toNat = 1
    · refine vc_trueB hF rfl (by have e : ((b0.toNat : Nat) : Int) = 1 := (by omega); rw [e]; rfl) ?_
      apply wp_seq_k; intro K19 hK19
      refine wp_region_lit ?_
      refine vc_y hF rfl rfl (by decide) _ (y_assign rfl rfl) (fun a hF => ?_)
      refine vc_nil ?_
      refine hK19 _ _ ?_; clear  hK19 K19
      apply wp_seq_k; intro K20 hK20
      refine wp_region_lit ?_
      refine vc_y hF rfl rfl (by decide) _ (y_move rfl rfl) (fun a hF => ?_)
      refine vc_y hF rfl rfl (by decide) _ (y_slice rfl Tryz.underlying27 ow_size5 rfl (.some (k := 1) rfl rfl) (.none _) (Nat.succ_le_succ (Nat.zero_le _)) hc (show Value.slice (sub (some ⟨bx, ox, none⟩) 1 c 1) ((b0 :: r1).length - 1) (c - 1) = .slice (sub (some ⟨bx, ox, none⟩) 1 c 1) r1.length (c - 1) from rfl)) (fun a hF => ?_)
      refine vc_op rfl (fun K hK => ws_call hF rfl (by decide) cl110_v16 rfl rfl ?_)
      with_reducible refine (rt_number w0 _ ([row b7 25 [.int .i64 ((b0.toNat : Nat) : Int), .int .i64 0, strV [], .slice none 0 0]] :: [row b1 25 [.int .i64 0, .int .i64 0, .string (⟨#[]⟩), .slice none 0 0]] :: R) (sub (some ⟨bx, ox, none⟩) 1 c 1) r1 (c - 1) 8 8 rfl (by decide) (hR1.mono (List.Subset.trans hG (subC (subC (sub0))))) hA11 hl1 ).mono ?_
      rintro e' w25 ⟨rfl, rfl⟩
      refine ⟨_, rfl, fun a hF => hK _ _ ?_⟩
      clear hK K
      refine vc_y hF rfl rfl (by decide) _ (y_move rfl rfl) (fun a hF => ?_)
      refine vc_y hF rfl rfl (by decide) _ (y_extract (v := .int .u64 ((((numR 8 r1).val 0 0) : Nat) : Int)) rfl rfl rfl) (fun a hF => ?_)
      refine vc_y hF rfl rfl (by decide) _ (y_extract (v := .int .i64 ((((numR 8 r1).pl 0 0) : Nat) : Int)) rfl rfl rfl) (fun a hF => ?_)
      refine vc_y hF rfl rfl (by decide) _ (y_extract (v := .int .i64 ((((numR 8 r1).why 0) : Nat) : Int)) rfl rfl rfl) (fun a hF => ?_)
      refine vc_y hF rfl rfl (by decide) _ (y_assign rfl rfl) (fun a hF => ?_)
      refine vc_y hF rfl rfl (by decide) _ (y_assign rfl rfl) (fun a hF => ?_)
      refine vc_y hF rfl rfl (by decide) _ (y_assign rfl rfl) (fun a hF => ?_)
      refine vc_nil ?_
      refine hK20 _ _ ?_; clear  hK20 K20
      refine wp_region_lit ?_
      refine vc_y hF rfl rfl (by decide) _ (y_move rfl rfl) (fun a hF => ?_)
      refine vc_y hF rfl rfl (by decide) _ (y_conv rfl Tryz.underlying135 Tryz.underlying3 rfl (i64_wrap (num8_lt r1))) (fun a hF => ?_)
      refine vc_y hF rfl rfl (by decide) _ (y_field rfl Tryz.underlying25 rfl sz3_v16 (by decide) rfl (rfl : (⟨_, 0 + _, none⟩ : Addr) = ⟨_, 1, none⟩)) (fun a hF => ?_)
      refine vc_op rfl (fun K hK => hs_store1 hF rfl rfl hA11 rfl rfl 0 rfl (by simp) rfl sz3_v16 (fun w26 hA27 => hK _ _ ?_))
      clear hK K
      replace hA27 : Hp w0 ([row b7 25 [.int .i64 ((b0.toNat : Nat) : Int), .int .i64 (i64 ((numR 8 r1).val 0 0)), strV [], .slice none 0 0]] :: [row b1 25 [.int .i64 0, .int .i64 0, .string (⟨#[]⟩), .slice none 0 0]] :: R) w26 := hA27
      refine vc_nil ?_
      exact hJ _ _ ⟨⟨((b0.toNat : Nat) : Int), i64 ((numR 8 r1).val 0 0), [], []⟩, none, 0⟩ [] ((numR 8 r1).pl 0 0) ((numR 8 r1).pl 0 0) ((numR 8 r1).why 0) (gb_1 (.inl hk1)) (vb_ok hb0 (i64_in (num8_lt r1))) (fun _ => rfl) (pl_no) (num_pl r1 8) (trivial) (hF.keep [6, 7, 2, 5] rfl) (Hp.nil hA27)
    · by_cases hk4 : b0.toNat = 4
      · refine vc_trueB hF rfl (by have e : ((b0.toNat : Nat) : Int) = 4 := (by omega); rw [e]; rfl) ?_
        apply wp_seq_k; intro K21 hK21
        refine wp_region_lit ?_
        refine vc_y hF rfl rfl (by decide) _ (y_assign rfl rfl) (fun a hF => ?_)
        refine vc_nil ?_
        refine hK21 _ _ ?_; clear  hK21 K21
        apply wp_seq_k; intro K22 hK22
        refine wp_region_lit ?_
        refine vc_y hF rfl rfl (by decide) _ (y_move rfl rfl) (fun a hF => ?_)
        refine vc_y hF rfl rfl (by decide) _ (y_slice rfl Tryz.underlying27 ow_size5 rfl (.some (k := 1) rfl rfl) (.none _) (Nat.succ_le_succ (Nat.zero_le _)) hc (show Value.slice (sub (some ⟨bx, ox, none⟩) 1 c 1) ((b0 :: r1).length - 1) (c - 1) = .slice (sub (some ⟨bx, ox, none⟩) 1 c 1) r1.length (c - 1) from rfl)) (fun a hF => ?_)
        refine vc_op rfl (fun K hK => ws_call hF rfl (by decide) cl110_v16 rfl rfl ?_)
        with_reducible refine (rt_number w0 _ ([row b7 25 [.int .i64 ((b0.toNat : Nat) : Int), .int .i64 0, strV [], .slice none 0 0]] :: [row b1 25 [.int .i64 0, .int .i64 0, .string (⟨#[]⟩), .slice none 0 0]] :: R) (sub (some ⟨bx, ox, none⟩) 1 c 1) r1 (c - 1) 8 8 rfl (by decide) (hR1.mono (List.Subset.trans hG (subC (subC (sub0))))) hA11 hl1 ).mono ?_
        rintro e' w30 ⟨rfl, rfl⟩
        refine ⟨_, rfl, fun a hF => hK _ _ ?_⟩
        clear hK K
        refine vc_y hF rfl rfl (by decide) _ (y_move rfl rfl) (fun a hF => ?_)
        refine vc_y hF rfl rfl (by decide) _ (y_extract (v := .int .u64 ((((numR 8 r1).val 0 0) : Nat) : Int)) rfl rfl rfl) (fun a hF => ?_)
        refine vc_y hF rfl rfl (by decide) _ (y_extract (v := .int .i64 ((((numR 8 r1).pl 0 0) : Nat) : Int)) rfl rfl rfl) (fun a hF => ?_)
        refine vc_y hF rfl rfl (by decide) _ (y_extract (v := .int .i64 ((((numR 8 r1).why 0) : Nat) : Int)) rfl rfl rfl) (fun a hF => ?_)
        refine vc_y hF rfl rfl (by decide) _ (y_assign rfl rfl) (fun a hF => ?_)
        refine vc_y hF rfl rfl (by decide) _ (y_assign rfl rfl) (fun a hF => ?_)
        refine vc_y hF rfl rfl (by decide) _ (y_assign rfl rfl) (fun a hF => ?_)
        refine vc_nil ?_
        refine hK22 _ _ ?_; clear  hK22 K22
        refine wp_region_lit ?_
        refine vc_y hF rfl rfl (by decide) _ (y_move rfl rfl) (fun a hF => ?_)
        refine vc_y hF rfl rfl (by decide) _ (y_conv rfl Tryz.underlying135 Tryz.underlying3 rfl (i64_wrap (num8_lt r1))) (fun a hF => ?_)
        refine vc_y hF rfl rfl (by decide) _ (y_field rfl Tryz.underlying25 rfl sz3_v16 (by decide) rfl (rfl : (⟨_, 0 + _, none⟩ : Addr) = ⟨_, 1, none⟩)) (fun a hF => ?_)
        refine vc_op rfl (fun K hK => hs_store1 hF rfl rfl hA11 rfl rfl 0 rfl (by simp) rfl sz3_v16 (fun w31 hA32 => hK _ _ ?_))
        clear hK K
        replace hA32 : Hp w0 ([row b7 25 [.int .i64 ((b0.toNat : Nat) : Int), .int .i64 (i64 ((numR 8 r1).val 0 0)), strV [], .slice none 0 0]] :: [row b1 25 [.int .i64 0, .int .i64 0, .string (⟨#[]⟩), .slice none 0 0]] :: R) w31 := hA32
        refine vc_nil ?_
        exact hJ _ _ ⟨⟨((b0.toNat : Nat) : Int), i64 ((numR 8 r1).val 0 0), [], []⟩, none, 0⟩ [] ((numR 8 r1).pl 0 0) ((numR 8 r1).pl 0 0) ((numR 8 r1).why 0) (gb_1 (.inr hk4)) (vb_ok hb0 (i64_in (num8_lt r1))) (fun _ => rfl) (pl_no) (num_pl r1 8) (trivial) (hF.keep [6, 7, 2, 5] rfl) (Hp.nil hA32)
      · refine vc_falseB hF rfl (by simp only [cmpB, Bool.or_eq_false_iff, beq_eq_false_iff_ne]; omega) ?_
        apply wp_seq_k; intro K23 hK23
        refine wp_region_lit ?_
        refine vc_y hF rfl rfl (by decide) _ (y_field rfl Tryz.underlying25 rfl sz22_v16 (by decide) rfl (rfl : (⟨_, 0 + _, none⟩ : Addr) = ⟨_, 0, none⟩)) (fun a hF => ?_)
        refine vc_y hF rfl rfl (by decide) _ (y_ld rfl hA11.q rfl 0 rfl rfl nr22_v16) (fun a hF => ?_)
        refine vc_y hF rfl rfl (by decide) _ (y_cmp rfl rfl rfl rfl rfl) (fun a hF => ?_)
        refine vc_nil ?_
        refine hK23 _ _ ?_; clear  hK23 K23
        by_cases hk2 : b0.toNat = 2
        · refine vc_trueB hF rfl (eql_t (by omega)) ?_
          apply wp_seq_k; intro K24 hK24
          refine wp_region_lit ?_
          refine vc_y hF rfl rfl (by decide) _ (y_assign rfl rfl) (fun a hF => ?_)
          refine vc_nil ?_
          refine hK24 _ _ ?_; clear  hK24 K24
          apply wp_seq_k; intro K25 hK25
          refine wp_region_lit ?_
          refine vc_y hF rfl rfl (by decide) _ (y_move rfl rfl) (fun a hF => ?_)
          refine vc_y hF rfl rfl (by decide) _ (y_slice rfl Tryz.underlying27 ow_size5 rfl (.some (k := 1) rfl rfl) (.none _) (Nat.succ_le_succ (Nat.zero_le _)) hc (show Value.slice (sub (some ⟨bx, ox, none⟩) 1 c 1) ((b0 :: r1).length - 1) (c - 1) = .slice (sub (some ⟨bx, ox, none⟩) 1 c 1) r1.length (c - 1) from rfl)) (fun a hF => ?_)
          refine vc_op rfl (fun K hK => ws_call hF rfl (by decide) cl111_v16 rfl rfl ?_)
          with_reducible refine (rt_flag w0 _ ([row b7 25 [.int .i64 ((b0.toNat : Nat) : Int), .int .i64 0, strV [], .slice none 0 0]] :: [row b1 25 [.int .i64 0, .int .i64 0, .string (⟨#[]⟩), .slice none 0 0]] :: R) (sub (some ⟨bx, ox, none⟩) 1 c 1) r1 (c - 1) (hR1.mono (List.Subset.trans hG (subC (subC (sub0))))) hA11 ).mono ?_
          rintro e' w35 ⟨rfl, rfl⟩
          refine ⟨_, rfl, fun a hF => hK _ _ ?_⟩
          clear hK K
          refine vc_y hF rfl rfl (by decide) _ (y_move rfl rfl) (fun a hF => ?_)
          refine vc_y hF rfl rfl (by decide) _ (y_extract (v := .bool ((flagR r1).val false 0)) rfl rfl rfl) (fun a hF => ?_)
          refine vc_y hF rfl rfl (by decide) _ (y_extract (v := .int .i64 ((((flagR r1).pl 0 0) : Nat) : Int)) rfl rfl rfl) (fun a hF => ?_)
          refine vc_y hF rfl rfl (by decide) _ (y_extract (v := .int .i64 ((((flagR r1).why 0) : Nat) : Int)) rfl rfl rfl) (fun a hF => ?_)
          refine vc_y hF rfl rfl (by decide) _ (y_assign rfl rfl) (fun a hF => ?_)
          refine vc_y hF rfl rfl (by decide) _ (y_assign rfl rfl) (fun a hF => ?_)
          refine vc_y hF rfl rfl (by decide) _ (y_assign rfl rfl) (fun a hF => ?_)
          refine vc_nil ?_
          refine hK25 _ _ ?_; clear  hK25 K25
          apply wp_seq_k; intro K26 hK26
          refine wp_region_lit ?_
          refine vc_y hF rfl rfl (by decide) _ (y_move rfl rfl) (fun a hF => ?_)
          refine vc_nil ?_
          refine hK26 _ _ ?_; clear  hK26 K26
          rcases tf ((flagR r1).val false 0) with hfb | hfb
          · refine vc_falseB hF rfl hfb ?_
            apply wp_skip
            exact hJ _ _ ⟨⟨((b0.toNat : Nat) : Int), 0, [], []⟩, none, 0⟩ [] ((flagR r1).pl 0 0) ((flagR r1).pl 0 0) ((flagR r1).why 0) (gb_2 hk2 hfb) (vb_ok hb0 (by decide)) (fun _ => rfl) (pl_no) (flag_pl r1) (trivial) (hF.keep [6, 7, 2, 5] rfl) (Hp.nil hA11)
          · refine vc_trueB hF rfl hfb ?_
            refine wp_region_lit ?_
            refine vc_y hF rfl rfl (by decide) _ (y_field rfl Tryz.underlying25 rfl sz3_v16 (by decide) rfl (rfl : (⟨_, 0 + _, none⟩ : Addr) = ⟨_, 1, none⟩)) (fun a hF => ?_)
            refine vc_op rfl (fun K hK => hs_store1 hF rfl rfl hA11 rfl rfl 0 rfl (by simp) rfl sz3_v16 (fun w36 hA37 => hK _ _ ?_))
            clear hK K
            replace hA37 : Hp w0 ([row b7 25 [.int .i64 ((b0.toNat : Nat) : Int), .int .i64 1, strV [], .slice none 0 0]] :: [row b1 25 [.int .i64 0, .int .i64 0, .string (⟨#[]⟩), .slice none 0 0]] :: R) w36 := hA37
            refine vc_nil ?_
            exact hJ _ _ ⟨⟨((b0.toNat : Nat) : Int), 1, [], []⟩, none, 0⟩ [] ((flagR r1).pl 0 0) ((flagR r1).pl 0 0) ((flagR r1).why 0) (gb_2 hk2 hfb) (vb_ok hb0 (by decide)) (fun _ => rfl) (pl_no) (flag_pl r1) (trivial) (hF.keep [6, 7, 2, 5] rfl) (Hp.nil hA37)
        · by_cases hk3 : b0.toNat = 3
          · refine vc_falseB hF rfl (eql_f (by omega)) ?_
            apply wp_seq_k; intro K27 hK27
            refine wp_region_lit ?_
            refine vc_y hF rfl rfl (by decide) _ (y_field rfl Tryz.underlying25 rfl sz22_v16 (by decide) rfl (rfl : (⟨_, 0 + _, none⟩ : Addr) = ⟨_, 0, none⟩)) (fun a hF => ?_)
            refine vc_y hF rfl rfl (by decide) _ (y_ld rfl hA11.q rfl 0 rfl rfl nr22_v16) (fun a hF => ?_)
            refine vc_y hF rfl rfl (by decide) _ (y_cmp rfl rfl rfl rfl rfl) (fun a hF => ?_)
            refine vc_nil ?_
            refine hK27 _ _ ?_; clear  hK27 K27
            refine vc_trueB hF rfl (eql_t (by omega)) ?_
            refine wp_region_lit ?_
            refine vc_y hF rfl rfl (by decide) _ (y_move rfl rfl) (fun a hF => ?_)
            refine vc_y hF rfl rfl (by decide) _ (y_slice rfl Tryz.underlying27 ow_size5 rfl (.some (k := 1) rfl rfl) (.none _) (Nat.succ_le_succ (Nat.zero_le _)) hc (show Value.slice (sub (some ⟨bx, ox, none⟩) 1 c 1) ((b0 :: r1).length - 1) (c - 1) = .slice (sub (some ⟨bx, ox, none⟩) 1 c 1) r1.length (c - 1) from rfl)) (fun a hF => ?_)
            refine vc_op rfl (fun K hK => ws_call hF rfl (by decide) cl112_v16 rfl rfl ?_)
            with_reducible refine (rt_text w0 _ ([row b7 25 [.int .i64 ((b0.toNat : Nat) : Int), .int .i64 0, strV [], .slice none 0 0]] :: [row b1 25 [.int .i64 0, .int .i64 0, .string (⟨#[]⟩), .slice none 0 0]] :: R) (sub (some ⟨bx, ox, none⟩) 1 c 1) r1 (c - 1) r1.length 1024 rfl (by omega) (hR1.mono (List.Subset.trans hG (subC (subC (sub0))))) hA11 hl1 ).mono ?_
            rintro e' w38 ⟨k3, rfl, hk3e, hA39⟩
            refine ⟨_, rfl, fun a hF => hK _ _ ?_⟩
            clear hK K
            replace hA39 : Hp w0 ([row b7 25 [.int .i64 ((b0.toNat : Nat) : Int), .int .i64 0, strV [], .slice none 0 0]] :: [row b1 25 [.int .i64 0, .int .i64 0, .string (⟨#[]⟩), .slice none 0 0]] :: R) w38 := hA39
            refine vc_y hF rfl rfl (by decide) _ (y_move rfl rfl) (fun a hF => ?_)
            refine vc_y hF rfl rfl (by decide) _ (y_extract (v := strV ((textR r1 1024).val [] 0)) rfl rfl rfl) (fun a hF => ?_)
            refine vc_y hF rfl rfl (by decide) _ (y_extract (v := .int .i64 ((k3 : Nat) : Int)) rfl rfl rfl) (fun a hF => ?_)
            refine vc_y hF rfl rfl (by decide) _ (y_extract (v := .int .i64 ((((textR r1 1024).why 0) : Nat) : Int)) rfl rfl rfl) (fun a hF => ?_)
            refine vc_y hF rfl rfl (by decide) _ (y_field rfl Tryz.underlying25 rfl sz9_v16 (by decide) rfl (rfl : (⟨_, 0 + _, none⟩ : Addr) = ⟨_, 2, none⟩)) (fun a hF => ?_)
            refine vc_op rfl (fun K hK => hs_store1 hF rfl rfl hA39 rfl rfl 0 rfl (by simp) rfl sz9_v16 (fun w40 hA41 => hK _ _ ?_))
            clear hK K
            replace hA41 : Hp w0 ([row b7 25 [.int .i64 ((b0.toNat : Nat) : Int), .int .i64 0, strV ((textR r1 1024).val [] 0), .slice none 0 0]] :: [row b1 25 [.int .i64 0, .int .i64 0, .string (⟨#[]⟩), .slice none 0 0]] :: R) w40 := hA41
            refine vc_y hF rfl rfl (by decide) _ (y_assign rfl rfl) (fun a hF => ?_)
            refine vc_y hF rfl rfl (by decide) _ (y_assign rfl rfl) (fun a hF => ?_)
            refine vc_nil ?_
            exact hJ _ _ ⟨⟨((b0.toNat : Nat) : Int), 0, ((textR r1 1024).val [] 0), []⟩, none, 0⟩ [] k3 ((textR r1 1024).pl 0 0) ((textR r1 1024).why 0) (gb_3 hk3) (vb_ok hb0 (by decide)) (hk3e) (pl_no) (text_pl r1 1024) (trivial) (hF.keep [6, 7, 2, 5] rfl) (Hp.nil hA41)
          · by_cases hk5 : b0.toNat = 5
            · refine vc_falseB hF rfl (eql_f (by omega)) ?_
              apply wp_seq_k; intro K28 hK28
              refine wp_region_lit ?_
              refine vc_y hF rfl rfl (by decide) _ (y_field rfl Tryz.underlying25 rfl sz22_v16 (by decide) rfl (rfl : (⟨_, 0 + _, none⟩ : Addr) = ⟨_, 0, none⟩)) (fun a hF => ?_)
              refine vc_y hF rfl rfl (by decide) _ (y_ld rfl hA11.q rfl 0 rfl rfl nr22_v16) (fun a hF => ?_)
              refine vc_y hF rfl rfl (by decide) _ (y_cmp rfl rfl rfl rfl rfl) (fun a hF => ?_)
              refine vc_nil ?_
              refine hK28 _ _ ?_; clear  hK28 K28
              refine vc_falseB hF rfl (eql_f (by omega)) ?_
              apply wp_seq_k; intro K29 hK29
              refine wp_region_lit ?_
              refine vc_y hF rfl rfl (by decide) _ (y_field rfl Tryz.underlying25 rfl sz22_v16 (by decide) rfl (rfl : (⟨_, 0 + _, none⟩ : Addr) = ⟨_, 0, none⟩)) (fun a hF => ?_)
              refine vc_y hF rfl rfl (by decide) _ (y_ld rfl hA11.q rfl 0 rfl rfl nr22_v16) (fun a hF => ?_)
              refine vc_y hF rfl rfl (by decide) _ (y_cmp rfl rfl rfl rfl rfl) (fun a hF => ?_)
              refine vc_nil ?_
              refine hK29 _ _ ?_; clear  hK29 K29
              refine vc_trueB hF rfl (eql_t (by omega)) ?_
              refine wp_region_lit ?_
              refine vc_y hF rfl rfl (by decide) _ (y_move rfl rfl) (fun a hF => ?_)
              refine vc_y hF rfl rfl (by decide) _ (y_slice rfl Tryz.underlying27 ow_size5 rfl (.some (k := 1) rfl rfl) (.none _) (Nat.succ_le_succ (Nat.zero_le _)) hc (show Value.slice (sub (some ⟨bx, ox, none⟩) 1 c 1) ((b0 :: r1).length - 1) (c - 1) = .slice (sub (some ⟨bx, ox, none⟩) 1 c 1) r1.length (c - 1) from rfl)) (fun a hF => ?_)
              refine vc_op rfl (fun K hK => ws_call hF rfl (by decide) cl113_v16 rfl rfl ?_)
              with_reducible refine (rt_texts w0 _ ([row b7 25 [.int .i64 ((b0.toNat : Nat) : Int), .int .i64 0, strV [], .slice none 0 0]] :: [row b1 25 [.int .i64 0, .int .i64 0, .string (⟨#[]⟩), .slice none 0 0]] :: R) (sub (some ⟨bx, ox, none⟩) 1 c 1) r1 (c - 1) 64 1024 (by omega) (hR1.mono (List.Subset.trans hG (subC (subC (sub0))))) hA11 hl1 ).mono ?_
              rintro e' w42 ⟨v3, Z1, k3, rfl, hk3e, hZ3, hA43⟩
              refine ⟨_, rfl, fun a hF => hK _ _ ?_⟩
              clear hK K
              replace hA43 : Hp w0 (Z1 :: [row b7 25 [.int .i64 ((b0.toNat : Nat) : Int), .int .i64 0, strV [], .slice none 0 0]] :: [row b1 25 [.int .i64 0, .int .i64 0, .string (⟨#[]⟩), .slice none 0 0]] :: R) w42 := hA43
              obtain ⟨A3, c3, rfl, _, hR3⟩ := hZ3.rc (w0 := w0) (R := [Z1]) (List.mem_cons_self ..)
              have hsl : ((textsR r1 64 1024).val [] 0).length ≤ 9223372036854775807 := by obtain ⟨_, _, e, h1, h2⟩ := hZ3.cap; omega
              refine vc_y hF rfl rfl (by decide) _ (y_move rfl rfl) (fun a hF => ?_)
              refine vc_y hF rfl rfl (by decide) _ (y_extract (v := .slice A3 (((textsR r1 64 1024).val [] 0).length) c3) rfl rfl rfl) (fun a hF => ?_)
              refine vc_y hF rfl rfl (by decide) _ (y_extract (v := .int .i64 ((k3 : Nat) : Int)) rfl rfl rfl) (fun a hF => ?_)
              refine vc_y hF rfl rfl (by decide) _ (y_extract (v := .int .i64 ((((textsR r1 64 1024).why 0) : Nat) : Int)) rfl rfl rfl) (fun a hF => ?_)
              refine vc_y hF rfl rfl (by decide) _ (y_field rfl Tryz.underlying25 rfl sz23_v16 (by decide) rfl (rfl : (⟨_, 0 + _, none⟩ : Addr) = ⟨_, 3, none⟩)) (fun a hF => ?_)
              refine vc_op rfl (fun K hK => hs_store1 hF rfl rfl hA43 rfl rfl 1 rfl (by simp) rfl sz23_v16 (fun w44 hA45 => hK _ _ ?_))
              clear hK K
              replace hA45 : Hp w0 (Z1 :: [row b7 25 [.int .i64 ((b0.toNat : Nat) : Int), .int .i64 0, strV [], .slice A3 (((textsR r1 64 1024).val [] 0).length) c3]] :: [row b1 25 [.int .i64 0, .int .i64 0, .string (⟨#[]⟩), .slice none 0 0]] :: R) w44 := hA45
              refine vc_y hF rfl rfl (by decide) _ (y_assign rfl rfl) (fun a hF => ?_)
              refine vc_y hF rfl rfl (by decide) _ (y_assign rfl rfl) (fun a hF => ?_)
              refine vc_nil ?_
              exact hJ _ _ ⟨⟨((b0.toNat : Nat) : Int), 0, [], ((textsR r1 64 1024).val [] 0)⟩, A3, c3⟩ Z1 k3 ((textsR r1 64 1024).pl 0 0) ((textsR r1 64 1024).why 0) (gb_5 hk5) (ss_ok hb0 hR3 hsl) (hk3e) (pl_no) (texts_pl r1) (trivial) (hF.keep [6, 7, 2, 5] rfl) hA45
            · refine vc_falseB hF rfl (eql_f (by omega)) ?_
              apply wp_seq_k; intro K30 hK30
              refine wp_region_lit ?_
              refine vc_y hF rfl rfl (by decide) _ (y_field rfl Tryz.underlying25 rfl sz22_v16 (by decide) rfl (rfl : (⟨_, 0 + _, none⟩ : Addr) = ⟨_, 0, none⟩)) (fun a hF => ?_)
              refine vc_y hF rfl rfl (by decide) _ (y_ld rfl hA11.q rfl 0 rfl rfl nr22_v16) (fun a hF => ?_)
              refine vc_y hF rfl rfl (by decide) _ (y_cmp rfl rfl rfl rfl rfl) (fun a hF => ?_)
              refine vc_nil ?_
              refine hK30 _ _ ?_; clear  hK30 K30
              refine vc_falseB hF rfl (eql_f (by omega)) ?_
              apply wp_seq_k; intro K31 hK31
              refine wp_region_lit ?_
              refine vc_y hF rfl rfl (by decide) _ (y_field rfl Tryz.underlying25 rfl sz22_v16 (by decide) rfl (rfl : (⟨_, 0 + _, none⟩ : Addr) = ⟨_, 0, none⟩)) (fun a hF => ?_)
              refine vc_y hF rfl rfl (by decide) _ (y_ld rfl hA11.q rfl 0 rfl rfl nr22_v16) (fun a hF => ?_)
              refine vc_y hF rfl rfl (by decide) _ (y_cmp rfl rfl rfl rfl rfl) (fun a hF => ?_)
              refine vc_nil ?_
              refine hK31 _ _ ?_; clear  hK31 K31
              refine vc_falseB hF rfl (eql_f (by omega)) ?_
              apply wp_skip
              exact hJ _ _ ⟨⟨((b0.toNat : Nat) : Int), 0, [], []⟩, none, 0⟩ [] 0 0 0 (gb_0 (.inr ⟨hk1, hk4, hk2, hk3, hk5⟩)) (vb_ok hb0 (by decide)) (fun _ => rfl) (fun _ => rfl) (Nat.zero_le _) (trivial) (hF.keep [6, 7, 2, 5] rfl) (Hp.nil hA11)
end Go.Proofs.YtepbmdlgdaedpaaGreatDoor
