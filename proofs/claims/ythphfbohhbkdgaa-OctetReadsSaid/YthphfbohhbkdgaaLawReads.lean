/- The walk of OctetReads. -/
import Derived.Test.YthphfbohhbkdgaaRx
import Derived.Test.YthphfbohhbkdgaaKd
import Derived.Test.YthphfbohhbkdgaaKm
namespace Go.Proofs.Ythphfbohhbkdgaa
open Go.RowKit Go.Dk
theorem nr60_lr : notRow Try.prog 60 = true := by kernel_rfl
theorem nr69_lr : notRow Try.prog 69 = true := by kernel_rfl
theorem rw38_lr : isRow Try.prog 38 12 = true := by kernel_rfl
theorem sz29_lr : (Try.prog.info? 29).map (·.size) = some 4 := by kernel_rfl
theorem sz38_lr : (Try.prog.info? 38).map (·.size) = some 12 := by kernel_rfl
theorem sz60_lr : (Try.prog.info? 60).map (·.size) = some 1 := by kernel_rfl
theorem sz63_lr : (Try.prog.info? 63).map (·.size) = some 4 := by kernel_rfl
theorem sz66_lr : (Try.prog.info? 66).map (·.size) = some 4 := by kernel_rfl
theorem sz69_lr : (Try.prog.info? 69).map (·.size) = some 1 := by kernel_rfl
theorem cl15_lr : CallsTo Try.prog 15 := ⟨_, Try.func15, by kernel_rfl, by kernel_rfl⟩
theorem cl16_lr : CallsTo Try.prog 16 := ⟨_, Try.func16, by kernel_rfl, by kernel_rfl⟩
theorem cl32_lr : CallsTo Try.prog 32 := ⟨_, Try.func32, by kernel_rfl, by kernel_rfl⟩
theorem cl33_lr : CallsTo Try.prog 33 := ⟨_, Try.func33, by kernel_rfl, by kernel_rfl⟩
theorem cl34_lr : CallsTo Try.prog 34 := ⟨_, Try.func34, by kernel_rfl, by kernel_rfl⟩
theorem cl35_lr : CallsTo Try.prog 35 := ⟨_, Try.func35, by kernel_rfl, by kernel_rfl⟩
theorem cl36_lr : CallsTo Try.prog 36 := ⟨_, Try.func36, by kernel_rfl, by kernel_rfl⟩
theorem cl37_lr : CallsTo Try.prog 37 := ⟨_, Try.func37, by kernel_rfl, by kernel_rfl⟩
theorem cl38_lr : CallsTo Try.prog 38 := ⟨_, Try.func38, by kernel_rfl, by kernel_rfl⟩


def opK (k : Int) : OpX := { kind := k, at_ := 0, many := 0, most := 0, each := 0, v := ⟨0, false, [], [], [], []⟩, ps := [], dA := none, dC := 0, qA := none, qC := 0, pA := none, pC := 0, sA := none, sC := 0 }
theorem opK_many {k : Int} : -9223372036854775808 ≤ (opK k).many ∧ (opK k).many ≤ 9223372036854775807 := (show (-9223372036854775808 : Int) ≤ 0 ∧ (0 : Int) ≤ 9223372036854775807 by decide)
theorem lr_op2 (w : World) : (Instr.build 38 #[(0, .int .i64 2)]).run Try.prog w = .ok (.agg (opC (opK 2)).toArray) w := by kernel_rfl
theorem lr_op5 (w : World) : (Instr.build 38 #[(0, .int .i64 5)]).run Try.prog w = .ok (.agg (opC (opK 5)).toArray) w := by kernel_rfl
theorem lr_op1 (w : World) : (Instr.build 38 #[(0, .int .i64 1)]).run Try.prog w = .ok (.agg (opC (opK 1)).toArray) w := by kernel_rfl
theorem lr_bs3 (w : World) : (Instr.buildSlice 35 3 #[(0, .int .u8 1), (1, .int .u8 2), (2, .int .u8 3)]).run Try.prog w = .ok (.slice (some ⟨w.heap.size, 0, none⟩) 3 3) (w.alloc (.cells (dc [1, 2, 3]).toArray 5)) := by kernel_rfl
theorem lr_build (A : Option Addr) (n c : Nat) (w : World) : (Instr.build 68 #[(0, .slice A n c)]).run Try.prog w = .ok (.agg ([.slice A n c, .slice none 0 0, .slice none 0 0, .slice none 0 0, .int .i64 0, .bool false, .slice none 0 0, .slice none 0 0, .int .i64 0, .bool false, .slice none 0 0, .slice none 0 0, .int .i64 0, .bool false] : List Value).toArray) w := by kernel_rfl
/-- one of the shelf's readers tells -/
theorem ShOK.tell {w0 : World} {F : List Seg} {sb n i : Nat} {bv : Value} {l : List UInt8} {Y : Seg} (h : ShOK w0 F sb n bv l Y) (hi : i < n) (hl : l.length < 140737488353900) : ∃ A c cs Z xb, Y = row sb 68 (bv :: .slice A n c :: cs) :: Z ∧ ∃ b p, A = some ⟨b, p, none⟩ ∧ (∀ {R : List Seg} (x : World), Hq w0 (Y :: R) x → x.cell? ⟨b, p + i * 1, none⟩ = some (.pointer (some ⟨xb, 0, none⟩))) ∧ ∀ (R : List Seg) (w : World), Hp w0 (Y :: R) w → Calls Try.prog 34 #[.pointer (some ⟨xb, 0, none⟩)] w fun e w' => e = .returned (.bool true) ∧ Hp w0 (Y :: R) w' := by
  obtain ⟨qs, rv, XR, YS, hn0, hqs, hR, hS, hY⟩ := h
  subst hn0
  obtain ⟨cs, Z, hYS⟩ := hS.head
  obtain ⟨A, c, rfl, _, hRR⟩ := hR.rc (w0 := w0) (R := [XR]) (List.mem_cons_self ..)
  have hiR : i < (qs.map rxP).length := by rw [List.length_map]; exact hi
  obtain ⟨b, p, rfl, hc⟩ := hRR.ne (i := i) hiR
  obtain ⟨⟨xb, rb, p0, y, A0, c0, X, LA, LC⟩, hq⟩ : ∃ q, qs[i]? = some q := ⟨_, List.getElem?_eq_getElem hi⟩
  obtain ⟨hO, hp, _⟩ : Buf 5 1 X (.slice A0 l.length c0) l.length (dc l) ∧ p0 ≤ l.length ∧ (l.length - p0 ≤ LC ∧ Rd w0 F LA (l.drop p0)) := hqs _ (List.mem_of_getElem? hq)
  have hqP : (qs.map rxP)[i]? = some (.pointer (some ⟨xb, 0, none⟩)) := by rw [List.getElem?_map, hq]; rfl
  have hqS : (qs.map (rxS l))[i]? = some (row xb 106 [.pointer (some ⟨rb, 0, none⟩), .slice LA (l.length - p0) LC, .int .i64 ((y : Nat) : Int)] :: row rb 95 [.slice A0 l.length c0, .int .i64 ((p0 : Nat) : Int), .int .i64 ((y : Nat) : Int)] :: X) := by rw [List.getElem?_map, hq]; rfl
  refine ⟨_, c, cs, Z ++ (XR ++ (qs.map (rxS l)).flatten), xb, by rw [hY, hYS]; rfl, b, p, rfl, fun {R} x hx => ?_, fun R w hA => ?_⟩
  · have h1 : Hq w0 [XR] x := hx.subF (fun r hr => by
      rw [List.flatten_cons, List.flatten_nil, List.append_nil] at hr
      rw [List.flatten_cons, hY]
      simp only [List.mem_append]
      exact .inl (.inr (.inl hr)))
    rw [show p + i * 1 = p + i by omega, (hc x h1).2 i hiR]
    exact hqP
  · have hperm : (Y :: R).flatten.Perm ([row xb 106 [.pointer (some ⟨rb, 0, none⟩), .slice LA (l.length - p0) LC, .int .i64 ((y : Nat) : Int)]] :: [row rb 95 [.slice A0 l.length c0, .int .i64 ((p0 : Nat) : Int), .int .i64 ((y : Nat) : Int)]] :: X :: (YS ++ XR) :: ((qs.map (rxS l)).eraseIdx i).flatten :: R).flatten := by
      have h1 := segs_out hqS
      rw [hY]
      simp only [List.flatten_cons, List.append_assoc, List.cons_append, List.nil_append] at h1 ⊢
      refine (List.Perm.append_left YS (List.Perm.append_left XR (h1.append_right _))).trans ?_
      simp only [List.append_assoc, List.cons_append]
      rw [← List.append_assoc YS XR]
      refine List.perm_append_comm.trans ?_
      simp only [List.append_assoc, List.cons_append]
      refine List.Perm.cons _ (List.Perm.cons _ (List.Perm.append_left X ?_))
      rw [← List.append_assoc, ← List.append_assoc YS XR]
      exact List.perm_append_comm
    refine (rx_told w0 w _ xb rb A0 l c0 p0 y X LA LC hO hp (by omega) (Hl.perm hA hperm)).mono ?_
    rintro e w' ⟨h1, h2⟩
    exact ⟨h1, Hl.perm h2 hperm.symm⟩

set_option maxRecDepth 100000 in
set_option maxHeartbeats 4000000 in
theorem law_reads (w0 : World) (bA : Option Addr) (l : List UInt8) (bC : Nat) (hbC : l.length ≤ bC) (hB : Rd w0 [] bA l) (hl : l.length < 140737488353900) (sA : Option Addr) (sC : Nat) (os : List OpX) (hOs : ∀ o ∈ os, OpOK w0 [] o) (hS : Rc w0 [] sA (os.map opC).flatten) (hn : os.length ≤ 9223372036854775807) : Calls Try.prog 6 #[.slice bA l.length bC, .slice sA os.length sC] w0 fun e w' => e = .returned (.bool true) ∧ At w0 [] w' := by
  have hA : Hp w0 [] w0 := Hp.start w0
  refine vc_enter Try.func6 rfl Try.ntmps6 (Nat.le_of_ble_eq_true rfl) (fun a hF => ?_)
  apply wp_seq_k; intro K1 hK1
  refine wp_region_lit ?_
  refine vc_y hF rfl rfl (by decide) _ (y_assign rfl rfl) (fun a hF => ?_)
  refine vc_nil ?_
  refine hK1 _ _ ?_; clear  hK1 K1
  apply wp_seq_k; intro K2 hK2
  refine wp_region_lit ?_
  refine vc_op rfl (fun K hK => hs_bs (qs := #[(0, .int .u8 1), (1, .int .u8 2), (2, .int .u8 3)]) (cells := (dc [1, 2, 3]).toArray) hF rfl (by decide) rfl hA rfl lr_bs3 (fun gl w1 a hgl hF hA2 => hK _ _ ?_))
  clear hK K
  replace hA2 : Hp w0 ([row gl 5 (dc [1, 2, 3])] :: []) w1 := hA2
  refine vc_y hF rfl rfl (by decide) _ (y_build (qs := #[(0, .slice (some ⟨gl, 0, none⟩) 3 3)]) rfl rfl (lr_build _ _ _)) (fun a hF => ?_)
  refine vc_op rfl (fun K hK => hs_box (cs := [.slice (some ⟨gl, 0, none⟩) 3 3, .slice none 0 0, .slice none 0 0, .slice none 0 0, .int .i64 0, .bool false, .slice none 0 0, .slice none 0 0, .int .i64 0, .bool false, .slice none 0 0, .slice none 0 0, .int .i64 0, .bool false]) hF rfl (by decide) rfl hA2 rfl (fun b3 w4 a hb3 hF hA5 => hK _ _ ?_))
  clear hK K
  replace hA5 : Hp w0 ([row b3 68 [.slice (some ⟨gl, 0, none⟩) 3 3, .slice none 0 0, .slice none 0 0, .slice none 0 0, .int .i64 0, .bool false, .slice none 0 0, .slice none 0 0, .int .i64 0, .bool false, .slice none 0 0, .slice none 0 0, .int .i64 0, .bool false]] :: [row gl 5 (dc [1, 2, 3])] :: []) w4 := hA5
  refine vc_y hF rfl rfl (by decide) _ (y_assign rfl rfl) (fun a hF => ?_)
  refine vc_nil ?_
  refine hK2 _ _ ?_; clear  hK2 K2
  apply wp_seq_k; intro K3 hK3
  have hB1 : Rd w0 [[row gl 5 (dc [1, 2, 3])]] (some ⟨gl, 0, none⟩) [1, 2, 3] := Rc.ofRow (i := 0) (off := 0) rfl rfl
  obtain ⟨bv1, hbv1⟩ : ∃ v : Value, v = .slice (some ⟨gl, 0, none⟩) 3 3 := ⟨_, rfl⟩
  have hbv1' : bv1 = .slice (some ⟨gl, 0, none⟩) ([1, 2, 3] : List UInt8).length 3 := hbv1
  rw [← hbv1] at hA5
  have hsh : ShOK w0 [[row gl 5 (dc [1, 2, 3])]] b3 0 (bv1) [1, 2, 3] [row b3 68 [bv1, .slice none 0 0, .slice none 0 0, .slice none 0 0, .int .i64 0, .bool false, .slice none 0 0, .slice none 0 0, .int .i64 0, .bool false, .slice none 0 0, .slice none 0 0, .int .i64 0, .bool false]] := ⟨[], .slice none 0 0, [], [row b3 68 [bv1, .slice none 0 0, .slice none 0 0, .slice none 0 0, .int .i64 0, .bool false, .slice none 0 0, .slice none 0 0, .int .i64 0, .bool false, .slice none 0 0, .slice none 0 0, .int .i64 0, .bool false]], rfl, (fun q h => by cases h), Buf.nil _ _, ⟨_, _, _, _, _, _, 0, 0, 0, [], [], [], [], [], [], BookV.new _ _ _ _, BookV.new _ _ _ _, BookV.new _ _ _ _, rfl⟩, rfl⟩
  obtain ⟨Y0, hY0⟩ : ∃ Y, Y = [row b3 68 [bv1, .slice none 0 0, .slice none 0 0, .slice none 0 0, .int .i64 0, .bool false, .slice none 0 0, .slice none 0 0, .int .i64 0, .bool false, .slice none 0 0, .slice none 0 0, .int .i64 0, .bool false]] := ⟨_, rfl⟩
  rw [← hY0] at hsh hA5
  refine wp_region_lit ?_
  refine vc_y hF rfl rfl (by decide) _ (y_move rfl rfl) (fun a hF => ?_)
  refine vc_op rfl (fun K hK => ws_call hF rfl (by decide) cl32_lr rfl rfl ?_)
  with_reducible refine (rx_opens w0 _ _ ([row gl 5 (dc [1, 2, 3])] :: []) b3 0 (some ⟨gl, 0, none⟩) 3 bv1 [1, 2, 3] _ sub0 hbv1' (by decide) hB1 (by decide) hsh (by decide) hA5 ).mono ?_
  rintro e' w6 ⟨Y1, rfl, hsh1, hA7⟩
  refine ⟨_, rfl, fun a hF => hK _ _ ?_⟩
  clear hK K
  replace hA7 : Hp w0 (Y1 :: [row gl 5 (dc [1, 2, 3])] :: []) w6 := hA7
  obtain ⟨n1, hn1, hnn1, hshN1⟩ : ∃ n, n ≤ 20 ∧ 0 < n ∧ ShOK w0 [[row gl 5 (dc [1, 2, 3])]] b3 n bv1 [1, 2, 3] Y1 := ⟨1, by decide, by decide, hsh1⟩
  refine vc_y hF rfl rfl (by decide) _ (y_move rfl rfl) (fun a hF => ?_)
  refine vc_yg hF rfl rfl rfl rfl rfl (by decide) _ (y_move rfl rfl) (fun a hF => ?_)
  refine vc_yg hF rfl rfl rfl rfl rfl (by decide) _ (y_build (qs := #[(0, .int .i64 2)]) rfl rfl lr_op2) (fun a hF => ?_)
  refine vc_opg hF rfl rfl rfl rfl (fun K hK => ws_call hF rfl (by decide) cl33_lr rfl rfl ?_)
  with_reducible refine (rx_reads w0 _ ([row gl 5 (dc [1, 2, 3])] :: []) b3 n1 (some ⟨gl, 0, none⟩) 3 bv1 [1, 2, 3] _ (opK 2) opK_many hbv1' (by decide) hB1 (by decide) hshN1 (.inl hnn1) hn1 hA7 ).mono ?_
  rintro e' w8 ⟨n2, Y2, rfl, hq1, hshN2, hA9⟩
  refine ⟨_, rfl, fun a hF => hK _ _ ?_⟩
  clear hK K
  replace hA9 : Hp w0 (Y2 :: [row gl 5 (dc [1, 2, 3])] :: []) w8 := hA9
  have hn2 : n2 ≤ 20 := hq1.2
  have hnn2 : 0 < n2 := Nat.lt_of_lt_of_le hnn1 hq1.1
  refine vc_y hF rfl rfl (by decide) _ (y_pick rfl rfl rfl) (fun a hF => ?_)
  refine vc_y hF rfl rfl (by decide) _ (y_move rfl rfl) (fun a hF => ?_)
  refine vc_yg hF rfl rfl rfl rfl rfl (by decide) _ (y_move rfl rfl) (fun a hF => ?_)
  refine vc_yg hF rfl rfl rfl rfl rfl (by decide) _ (y_build (qs := #[(0, .int .i64 5)]) rfl rfl lr_op5) (fun a hF => ?_)
  refine vc_opg hF rfl rfl rfl rfl (fun K hK => ws_call hF rfl (by decide) cl33_lr rfl rfl ?_)
  with_reducible refine (rx_reads w0 _ ([row gl 5 (dc [1, 2, 3])] :: []) b3 n2 (some ⟨gl, 0, none⟩) 3 bv1 [1, 2, 3] _ (opK 5) opK_many hbv1' (by decide) hB1 (by decide) hshN2 (.inl hnn2) hn2 hA9 ).mono ?_
  rintro e' w10 ⟨n3, Y3, rfl, hq2, hshN3, hA11⟩
  refine ⟨_, rfl, fun a hF => hK _ _ ?_⟩
  clear hK K
  replace hA11 : Hp w0 (Y3 :: [row gl 5 (dc [1, 2, 3])] :: []) w10 := hA11
  have hn3 : n3 ≤ 20 := hq2.2
  have hnn3 : 0 < n3 := Nat.lt_of_lt_of_le hnn2 hq2.1
  refine vc_y hF rfl rfl (by decide) _ (y_pick rfl rfl rfl) (fun a hF => ?_)
  refine vc_y hF rfl rfl (by decide) _ (y_move rfl rfl) (fun a hF => ?_)
  refine vc_yg hF rfl rfl rfl rfl rfl (by decide) _ (y_move rfl rfl) (fun a hF => ?_)
  refine vc_yg hF rfl rfl rfl rfl rfl (by decide) _ (y_build (qs := #[(0, .int .i64 1)]) rfl rfl lr_op1) (fun a hF => ?_)
  refine vc_opg hF rfl rfl rfl rfl (fun K hK => ws_call hF rfl (by decide) cl33_lr rfl rfl ?_)
  with_reducible refine (rx_reads w0 _ ([row gl 5 (dc [1, 2, 3])] :: []) b3 n3 (some ⟨gl, 0, none⟩) 3 bv1 [1, 2, 3] _ (opK 1) opK_many hbv1' (by decide) hB1 (by decide) hshN3 (.inl hnn3) hn3 hA11 ).mono ?_
  rintro e' w12 ⟨n4, Y4, rfl, hq3, hshN4, hA13⟩
  refine ⟨_, rfl, fun a hF => hK _ _ ?_⟩
  clear hK K
  replace hA13 : Hp w0 (Y4 :: [row gl 5 (dc [1, 2, 3])] :: []) w12 := hA13
  have hn4 : n4 ≤ 20 := hq3.2
  have hnn4 : 0 < n4 := Nat.lt_of_lt_of_le hnn3 hq3.1
  refine vc_y hF rfl rfl (by decide) _ (y_pick rfl rfl rfl) (fun a hF => ?_)
  refine vc_y hF rfl rfl (by decide) _ (y_assign rfl rfl) (fun a hF => ?_)
  refine vc_nil ?_
  refine hK3 _ _ ?_; clear  hK3 K3
  apply wp_seq_k; intro K4 hK4
  apply wp_seq_k; intro K5 hK5
  refine wp_region_lit ?_
  refine vc_y hF rfl rfl (by decide) _ (y_move rfl rfl) (fun a hF => ?_)
  refine vc_y hF rfl rfl (by decide) _ (y_not rfl rfl rfl) (fun a hF => ?_)
  refine vc_nil ?_
  refine hK5 _ _ ?_; clear  hK5 K5
  refine vc_false hF rfl ?_
  apply wp_skip
  refine hK4 _ _ ?_; clear  hK4 K4
  apply wp_seq_k; intro K6 hK6
  refine wp_region_lit ?_
  refine vc_y hF rfl rfl (by decide) _ (y_move rfl rfl) (fun a hF => ?_)
  refine vc_y hF rfl rfl (by decide) _ (y_build (qs := #[(0, .slice bA l.length bC)]) rfl rfl (lr_build _ _ _)) (fun a hF => ?_)
  refine vc_op rfl (fun K hK => hs_box (cs := [.slice bA l.length bC, .slice none 0 0, .slice none 0 0, .slice none 0 0, .int .i64 0, .bool false, .slice none 0 0, .slice none 0 0, .int .i64 0, .bool false, .slice none 0 0, .slice none 0 0, .int .i64 0, .bool false]) hF rfl (by decide) rfl hA13 rfl (fun b14 w15 a hb14 hF hA16 => hK _ _ ?_))
  clear hK K
  replace hA16 : Hp w0 ([row b14 68 [.slice bA l.length bC, .slice none 0 0, .slice none 0 0, .slice none 0 0, .int .i64 0, .bool false, .slice none 0 0, .slice none 0 0, .int .i64 0, .bool false, .slice none 0 0, .slice none 0 0, .int .i64 0, .bool false]] :: Y4 :: [row gl 5 (dc [1, 2, 3])] :: []) w15 := hA16
  refine vc_y hF rfl rfl (by decide) _ (y_assign rfl rfl) (fun a hF => ?_)
  refine vc_nil ?_
  refine hK6 _ _ ?_; clear  hK6 K6
  apply wp_seq_k; intro K7 hK7
  have hA17 : Hp w0 ([row b14 68 [.slice bA l.length bC, .slice none 0 0, .slice none 0 0, .slice none 0 0, .int .i64 0, .bool false, .slice none 0 0, .slice none 0 0, .int .i64 0, .bool false, .slice none 0 0, .slice none 0 0, .int .i64 0, .bool false]] :: []) w15 := Hp.sel [[row b14 68 [.slice bA l.length bC, .slice none 0 0, .slice none 0 0, .slice none 0 0, .int .i64 0, .bool false, .slice none 0 0, .slice none 0 0, .int .i64 0, .bool false, .slice none 0 0, .slice none 0 0, .int .i64 0, .bool false]], Y4, [row gl 5 (dc [1, 2, 3])]] [] [0] [1, 2] hA16 rfl
  obtain ⟨bv, hbv⟩ : ∃ v : Value, v = .slice bA l.length bC := ⟨_, rfl⟩
  rw [← hbv] at hA17
  have hsh : ShOK w0 [] b14 0 (bv) l [row b14 68 [bv, .slice none 0 0, .slice none 0 0, .slice none 0 0, .int .i64 0, .bool false, .slice none 0 0, .slice none 0 0, .int .i64 0, .bool false, .slice none 0 0, .slice none 0 0, .int .i64 0, .bool false]] := ⟨[], .slice none 0 0, [], [row b14 68 [bv, .slice none 0 0, .slice none 0 0, .slice none 0 0, .int .i64 0, .bool false, .slice none 0 0, .slice none 0 0, .int .i64 0, .bool false, .slice none 0 0, .slice none 0 0, .int .i64 0, .bool false]], rfl, (fun q h => by cases h), Buf.nil _ _, ⟨_, _, _, _, _, _, 0, 0, 0, [], [], [], [], [], [], BookV.new _ _ _ _, BookV.new _ _ _ _, BookV.new _ _ _ _, rfl⟩, rfl⟩
  obtain ⟨YY0, hYY0⟩ : ∃ Y, Y = [row b14 68 [bv, .slice none 0 0, .slice none 0 0, .slice none 0 0, .int .i64 0, .bool false, .slice none 0 0, .slice none 0 0, .int .i64 0, .bool false, .slice none 0 0, .slice none 0 0, .int .i64 0, .bool false]] := ⟨_, rfl⟩
  rw [← hYY0] at hsh hA17
  refine wp_region_lit ?_
  refine vc_y hF rfl rfl (by decide) _ (y_move rfl rfl) (fun a hF => ?_)
  refine vc_op rfl (fun K hK => ws_call hF rfl (by decide) cl32_lr rfl rfl ?_)
  with_reducible refine (rx_opens w0 _ [] [] b14 0 bA bC bv l _ (List.nil_subset _) hbv hbC hB hl hsh (by decide) hA17 ).mono ?_
  rintro e' w18 ⟨YY1, rfl, hshA, hA19⟩
  refine ⟨_, rfl, fun a hF => hK _ _ ?_⟩
  clear hK K
  replace hA19 : Hp w0 (YY1 :: []) w18 := hA19
  obtain ⟨AR, cR, cs, Z, xb, eY, bR, pR, rfl, hcR, htold⟩ := ShOK.tell (i := 0) hshA (by decide) hl
  subst eY
  refine vc_y hF rfl rfl (by decide) _ (y_move rfl rfl) (fun a hF => ?_)
  refine vc_yg hF rfl rfl rfl rfl rfl (by decide) _ (y_move rfl rfl) (fun a hF => ?_)
  refine vc_yg hF rfl rfl rfl rfl rfl (by decide) _ (y_nilCheck rfl rfl) (fun a hF => ?_)
  refine vc_yg hF rfl rfl rfl rfl rfl (by decide) _ (y_field rfl Try.underlying68 rfl sz60_lr (by decide) rfl (rfl : (⟨_, 0 + _, none⟩ : Addr) = ⟨_, 1, none⟩)) (fun a hF => ?_)
  refine vc_yg hF rfl rfl rfl rfl rfl (by decide) _ (y_ld (u := .slice (some ⟨bR, pR, none⟩) 1 cR) rfl hA19.q rfl 0 rfl rfl nr60_lr) (fun a hF => ?_)
  refine vc_yg hF rfl rfl rfl rfl rfl (by decide) _ (y_ixSl rfl Try.underlying60 sz69_lr rfl rfl 0 rfl (by decide) (ad2 _ _ _)) (fun a hF => ?_)
  refine vc_yg hF rfl rfl rfl rfl rfl (by decide) _ (y_load1 rfl rfl (hcR _ hA19.q) nr69_lr) (fun a hF => ?_)
  refine vc_opg hF rfl rfl rfl rfl (fun K hK => ws_call hF rfl (by decide) cl34_lr rfl rfl ?_)
  with_reducible refine (htold _ _ hA19 ).mono ?_
  rintro e' w20 ⟨rfl, hA21⟩
  refine ⟨_, rfl, fun a hF => hK _ _ ?_⟩
  clear hK K
  replace hA21 : Hp w0 ((row b14 68 (bv :: .slice (some ⟨bR, pR, none⟩) 1 cR :: cs) :: Z) :: []) w20 := hA21
  refine vc_y hF rfl rfl (by decide) _ (y_pick rfl rfl rfl) (fun a hF => ?_)
  refine vc_y hF rfl rfl (by decide) _ (y_assign rfl rfl) (fun a hF => ?_)
  refine vc_nil ?_
  refine hK7 _ _ ?_; clear  hK7 K7
  apply wp_seq_k; intro K8 hK8
  apply wp_seq_k; intro K9 hK9
  refine wp_region_lit ?_
  refine vc_y hF rfl rfl (by decide) _ (y_move rfl rfl) (fun a hF => ?_)
  refine vc_y hF rfl rfl (by decide) _ (y_not rfl rfl rfl) (fun a hF => ?_)
  refine vc_nil ?_
  refine hK9 _ _ ?_; clear  hK9 K9
  refine vc_false hF rfl ?_
  apply wp_skip
  refine hK8 _ _ ?_; clear  hK8 K8
  apply wp_seq_k; intro K10 hK10
  apply wp_seq_k; intro K11 hK11
  refine wp_region_lit ?_
  refine vc_y hF rfl rfl (by decide) _ (y_assign rfl rfl) (fun a hF => ?_)
  refine vc_nil ?_
  refine hK11 _ _ ?_; clear  hK11 K11
  apply wp_block
  refine vc_loop (G := Nat) (fun i a x => ∃ (n : Nat) (Y : Seg), i ≤ os.length ∧ (0 < n ∧ n ≤ 20) ∧ ShOK w0 [] b14 n bv l Y ∧ Fr 77 [(8, .int .i64 (i : Int)), (1, .slice sA os.length sC), (7, .pointer (some ⟨b14, 0, none⟩))] a ∧ Hp w0 (Y :: []) x) (fun i => os.length - i) 0 (⟨1, _, Nat.zero_le _, ⟨by decide, by decide⟩, hshA, hF.keep [8, 1, 7] rfl, hA21⟩) ?_
  clear hF
  rintro i a w23 ⟨n, Y, hi, hn1, hsh, hF, hA22⟩
  apply wp_seq_k; intro K12 hK12
  apply wp_seq_k; intro K13 hK13
  refine wp_region_lit ?_
  refine vc_y hF rfl rfl (by decide) _ (y_move rfl rfl) (fun a hF => ?_)
  refine vc_y hF rfl rfl (by decide) _ (y_move rfl rfl) (fun a hF => ?_)
  refine vc_y hF rfl rfl (by decide) _ (y_lenSl rfl Try.underlying23 rfl rfl) (fun a hF => ?_)
  refine vc_y hF rfl rfl (by decide) _ (y_cmp rfl rfl rfl rfl rfl) (fun a hF => ?_)
  refine vc_nil ?_
  refine hK13 _ _ ?_; clear  hK13 K13
  by_cases hlt : i < os.length
  · refine vc_trueB hF rfl (lss_t (by omega)) ?_
    obtain ⟨o, ho⟩ : ∃ o, os[i]? = some o := ⟨_, List.getElem?_eq_getElem hlt⟩
    have hok := hOs o (List.mem_of_getElem? ho)
    obtain ⟨hat, hle⟩ := flat_at (z := 12) (Ws := os.map opC) (V := opC o) (i := i) (fun V hV => by obtain ⟨u, _, rfl⟩ := List.mem_map.1 hV; rfl) (by rw [List.getElem?_map, ho]; rfl)
    obtain ⟨b, q, rfl, hc⟩ := hS.ne (i := i * 12) (by omega)
    apply wp_skip
    refine hK12 _ _ ?_; clear  hK12 K12
    apply wp_seq_k; intro K14 hK14
    apply wp_block
    apply wp_seq_k; intro K15 hK15
    refine wp_region_lit ?_
    refine vc_y hF rfl rfl (by decide) _ (y_move rfl rfl) (fun a hF => ?_)
    refine vc_y hF rfl rfl (by decide) _ (y_move rfl rfl) (fun a hF => ?_)
    refine vc_y hF rfl rfl (by decide) _ (y_move rfl rfl) (fun a hF => ?_)
    refine vc_y hF rfl rfl (by decide) _ (y_ixSl rfl Try.underlying23 sz38_lr rfl rfl i rfl hlt rfl) (fun a hF => ?_)
    refine vc_y hF rfl rfl (by decide) _ (y_ldRowC (new := opC o) rfl (Hq.sub hA22.q (List.nil_subset _)) rfl hc (i * 12) hle rfl hat rw38_lr) (fun a hF => ?_)
    refine vc_op rfl (fun K hK => ws_call hF rfl (by decide) cl33_lr rfl rfl ?_)
    with_reducible refine (rx_reads w0 _ [] b14 n bA bC bv l _ o hok.many hbv hbC hB hl hsh (.inl hn1.1) hn1.2 hA22 ).mono ?_
    rintro e' w24 ⟨n5, Y5, rfl, hn5, hsh5, hA25⟩
    refine ⟨_, rfl, fun a hF => hK _ _ ?_⟩
    clear hK K
    replace hA25 : Hp w0 (Y5 :: []) w24 := hA25
    refine vc_y hF rfl rfl (by decide) _ (y_assign rfl rfl) (fun a hF => ?_)
    refine vc_nil ?_
    refine hK15 _ _ ?_; clear  hK15 K15
    apply wp_seq_k; intro K16 hK16
    refine wp_region_lit ?_
    refine vc_y hF rfl rfl (by decide) _ (y_move rfl rfl) (fun a hF => ?_)
    refine vc_y hF rfl rfl (by decide) _ (y_not rfl rfl rfl) (fun a hF => ?_)
    refine vc_nil ?_
    refine hK16 _ _ ?_; clear  hK16 K16
    refine vc_false hF rfl ?_
    apply wp_skip
    refine hK14 _ _ ?_; clear  hK14 K14
    refine wp_region_lit ?_
    refine vc_y hF rfl rfl (by decide) _ (y_move rfl rfl) (fun a hF => ?_)
    refine vc_y hF rfl rfl (by decide) _ (y_add rfl rfl rfl (IntWalk.i64_in _ (by omega))) (fun a hF => ?_)
    refine vc_y hF rfl rfl (by decide) _ (y_assign rfl rfl) (fun a hF => ?_)
    refine vc_nil ?_
    exact ⟨i + 1, by omega, n5, Y5, by omega, ⟨by omega, hn5.2⟩, hsh5, hF.keep [8, 1, 7] rfl, hA25⟩
  · refine vc_falseB hF rfl (lss_f (by omega)) ?_
    apply wp_exit
    refine hK10 _ _ ?_; clear hK12 K12 hK10 K10
    apply wp_seq_k; intro K17 hK17
    obtain ⟨qs, rv, XR, YS, hn0, hqs, hR, ⟨lb, wb, lt, wt, ld, wd, hb, ht, hd, kb, kt, kd, YB, YT, YD, hBk, hTk, hDk, rfl⟩, hYe⟩ := hsh
    rw [hYe] at hA22
    have hA26 : Hp w0 ([row b14 68 [bv, rv, lb, wb, .int .i64 hb, .bool false, lt, wt, .int .i64 ht, .bool false, ld, wd, .int .i64 hd, .bool false]] :: YB :: YT :: YD :: XR :: (qs.map (rxS l)).flatten :: []) w23 := hA22.cast (by simp)
    refine wp_region_lit ?_
    refine vc_y hF rfl rfl (by decide) _ (y_move rfl rfl) (fun a hF => ?_)
    refine vc_y hF rfl rfl (by decide) _ (y_nilCheck rfl rfl) (fun a hF => ?_)
    refine vc_y hF rfl rfl (by decide) _ (y_field rfl Try.underlying68 rfl sz29_lr (by decide) rfl (rfl : (⟨_, 0 + _, none⟩ : Addr) = ⟨_, 2, none⟩)) (fun a hF => ?_)
    refine vc_op rfl (fun K hK => ws_call hF rfl (by decide) cl15_lr rfl rfl ?_)
    with_reducible refine (kb_apart_byte_2_8 w0 _ (YT :: YD :: XR :: (qs.map (rxS l)).flatten :: []) b14 16 kb YB kb_mb (fun _ _ => rfl) cl16_lr (kb_mark_byte w0) hBk hA26 ).mono ?_
    rintro e' w27 ⟨rfl, hA28⟩
    refine ⟨_, rfl, fun a hF => hK _ _ ?_⟩
    clear hK K
    replace hA28 : Hp w0 ([row b14 68 [bv, rv, .slice none 0 0, .slice none 0 0, .int .i64 0, .bool false, lt, wt, .int .i64 ht, .bool false, ld, wd, .int .i64 hd, .bool false]] :: YT :: YD :: XR :: (qs.map (rxS l)).flatten :: []) w27 := hA28
    refine vc_y hF rfl rfl (by decide) _ (y_move rfl rfl) (fun a hF => ?_)
    refine vc_yg hF rfl rfl rfl rfl rfl (by decide) _ (y_move rfl rfl) (fun a hF => ?_)
    refine vc_yg hF rfl rfl rfl rfl rfl (by decide) _ (y_nilCheck rfl rfl) (fun a hF => ?_)
    refine vc_yg hF rfl rfl rfl rfl rfl (by decide) _ (y_field rfl Try.underlying68 rfl sz63_lr (by decide) rfl (rfl : (⟨_, 0 + _, none⟩ : Addr) = ⟨_, 6, none⟩)) (fun a hF => ?_)
    refine vc_opg hF rfl rfl rfl rfl (fun K hK => ws_call hF rfl (by decide) cl35_lr rfl rfl ?_)
    with_reducible refine (kb_apart_string_6_4 w0 _ (YD :: XR :: (qs.map (rxS l)).flatten :: []) b14 36 kt YT kb_ms (fun _ _ => rfl) cl36_lr (kb_mark_string w0) hTk hA28 ).mono ?_
    rintro e' w29 ⟨rfl, hA30⟩
    refine ⟨_, rfl, fun a hF => hK _ _ ?_⟩
    clear hK K
    replace hA30 : Hp w0 ([row b14 68 [bv, rv, .slice none 0 0, .slice none 0 0, .int .i64 0, .bool false, .slice none 0 0, .slice none 0 0, .int .i64 0, .bool false, ld, wd, .int .i64 hd, .bool false]] :: YD :: XR :: (qs.map (rxS l)).flatten :: []) w29 := hA30
    refine vc_y hF rfl rfl (by decide) _ (y_pick rfl rfl rfl) (fun a hF => ?_)
    refine vc_y hF rfl rfl (by decide) _ (y_move rfl rfl) (fun a hF => ?_)
    refine vc_yg hF rfl rfl rfl rfl rfl (by decide) _ (y_move rfl rfl) (fun a hF => ?_)
    refine vc_yg hF rfl rfl rfl rfl rfl (by decide) _ (y_nilCheck rfl rfl) (fun a hF => ?_)
    refine vc_yg hF rfl rfl rfl rfl rfl (by decide) _ (y_field rfl Try.underlying68 rfl sz66_lr (by decide) rfl (rfl : (⟨_, 0 + _, none⟩ : Addr) = ⟨_, 10, none⟩)) (fun a hF => ?_)
    refine vc_opg hF rfl rfl rfl rfl (fun K hK => ws_call hF rfl (by decide) cl37_lr rfl rfl ?_)
    with_reducible refine (kb_apart_digest_10_0 w0 _ (XR :: (qs.map (rxS l)).flatten :: []) b14 38 kd YD kb_md (fun _ _ => rfl) cl38_lr (kb_mark_digest w0) hDk hA30 ).mono ?_
    rintro e' w31 ⟨rfl, hA32⟩
    refine ⟨_, rfl, fun a hF => hK _ _ ?_⟩
    clear hK K
    replace hA32 : Hp w0 ([row b14 68 [bv, rv, .slice none 0 0, .slice none 0 0, .int .i64 0, .bool false, .slice none 0 0, .slice none 0 0, .int .i64 0, .bool false, .slice none 0 0, .slice none 0 0, .int .i64 0, .bool false]] :: XR :: (qs.map (rxS l)).flatten :: []) w31 := hA32
    refine vc_y hF rfl rfl (by decide) _ (y_pick rfl rfl rfl) (fun a hF => ?_)
    refine vc_y hF rfl rfl (by decide) _ (y_assign rfl rfl) (fun a hF => ?_)
    refine vc_nil ?_
    refine hK17 _ _ ?_; clear  hK17 K17
    apply wp_ret
    refine vc_ret1 hF Try.results6 rfl ?_
    exact ⟨rfl, hA32.at0⟩
end Go.Proofs.Ythphfbohhbkdgaa
