/- The walk of OctetWrites. -/
import Derived.Test.YthphfbohhbkdgaaWt
import Derived.Test.YthphfbohhbkdgaaKd0
import Derived.Test.YthphfbohhbkdgaaKm
namespace Go.Proofs.Ythphfbohhbkdgaa
open Go.RowKit Go.Dk
theorem nr26_lw : notRow Try.prog 26 = true := by kernel_rfl
theorem rw38_lw : isRow Try.prog 38 12 = true := by kernel_rfl
theorem sz26_lw : (Try.prog.info? 26).map (·.size) = some 1 := by kernel_rfl
theorem sz29_lw : (Try.prog.info? 29).map (·.size) = some 4 := by kernel_rfl
theorem sz38_lw : (Try.prog.info? 38).map (·.size) = some 12 := by kernel_rfl
theorem cl12_lw : CallsTo Try.prog 12 := ⟨_, Try.func12, by kernel_rfl, by kernel_rfl⟩
theorem cl13_lw : CallsTo Try.prog 13 := ⟨_, Try.func13, by kernel_rfl, by kernel_rfl⟩
theorem cl14_lw : CallsTo Try.prog 14 := ⟨_, Try.func14, by kernel_rfl, by kernel_rfl⟩
theorem cl15_lw : CallsTo Try.prog 15 := ⟨_, Try.func15, by kernel_rfl, by kernel_rfl⟩
theorem cl16_lw : CallsTo Try.prog 16 := ⟨_, Try.func16, by kernel_rfl, by kernel_rfl⟩


def opEmpty (k : Int) (n : Nat) (ss : List (List UInt8)) (A : Option Addr) (c : Nat) (m e : Int) : OpX := { kind := k, at_ := 0, many := 0, most := m, each := e, v := ⟨n, false, [], [], [], ss⟩, ps := [], dA := none, dC := 0, qA := none, qC := 0, pA := none, pC := 0, sA := A, sC := c }
def opNew : OpX := opEmpty 13 0 [] none 0 0 0
def opTwo : OpX := opEmpty 2 515 [] none 0 0 0
def opTexts (g : Nat) : OpX := opEmpty 10 0 [[98], [97]] (some ⟨g, 0, none⟩) 2 2 1
theorem opNew_ok {w0 : World} {R : List Seg} : OpOK w0 R opNew := ⟨op_z2, by decide, (fun d hd => by cases hd), Rc.nil, Rc.nil, Nat.le_refl 0, Rc.nil, op_z, op_z, op_z, op_z⟩
theorem opTwo_ok {w0 : World} {R : List Seg} : OpOK w0 R opTwo := ⟨by decide, by decide, (fun d hd => by cases hd), Rc.nil, Rc.nil, Nat.le_refl 0, Rc.nil, op_z, op_z, op_z, op_z⟩
theorem opTexts_ok {w0 : World} {R : List Seg} {g : Nat} (h : Rc w0 R (some ⟨g, 0, none⟩) [strV [98], strV [97]]) : OpOK w0 R (opTexts g) := ⟨op_z2, (show (-9223372036854775808 : Int) ≤ 0 ∧ (0 : Int) ≤ 9223372036854775807 by decide), (fun d hd => by cases hd), Rc.nil, Rc.nil, Nat.le_refl 0, h, op_z, (show (2 : Nat) ≤ 9223372036854775807 by decide), op_z, op_z⟩
theorem opNew_pc {w0 : World} {R : List Seg} : PcS w0 R opNew.qA opNew.ps := ⟨Rc.nil, fun p hp => by cases hp⟩
theorem opTwo_pc {w0 : World} {R : List Seg} : PcS w0 R opTwo.qA opTwo.ps := ⟨Rc.nil, fun p hp => by cases hp⟩
theorem opTexts_pc {w0 : World} {R : List Seg} {g : Nat} : PcS w0 R (opTexts g).qA (opTexts g).ps := ⟨Rc.nil, fun p hp => by cases hp⟩
theorem opNew_c : opCost opNew = 100 := rfl
theorem opTwo_c : opCost opTwo = 100 := rfl
theorem opTexts_c (g : Nat) : opCost (opTexts g) = 104 := rfl
theorem lw_build0 (w : World) : (Instr.build 31 #[]).run Try.prog w = .ok (.agg ([.slice none 0 0, .slice none 0 0, .slice none 0 0, .slice none 0 0, .int .i64 0, .bool false] : List Value).toArray) w := by kernel_rfl
theorem lw_build1 (w : World) : (Instr.build 38 #[(0, .int .i64 13)]).run Try.prog w = .ok (.agg (opC opNew).toArray) w := by kernel_rfl
theorem lw_build2 (w : World) : (Instr.build 38 #[(0, .int .i64 2), (2, .int .u64 515)]).run Try.prog w = .ok (.agg (opC opTwo).toArray) w := by kernel_rfl
theorem lw_build3 (g : Nat) (w : World) : (Instr.build 38 #[(0, .int .i64 10), (9, .slice (some ⟨g, 0, none⟩) 2 2), (10, .int .i64 2), (11, .int .i64 1)]).run Try.prog w = .ok (.agg (opC (opTexts g)).toArray) w := by kernel_rfl
theorem lw_bsS (w : World) : (Instr.buildSlice 36 2 #[(0, strV [98]), (1, strV [97])]).run Try.prog w = .ok (.slice (some ⟨w.heap.size, 0, none⟩) 2 2) (w.alloc (.cells #[strV [98], strV [97]] 9)) := by kernel_rfl
theorem lw_tells0 (w0 w : World) (R : List Seg) (rb n T : Nat) (Y : Seg) (hrow : RowOK rb n T Y) (hi0 : 0 < n) (hA : Hp w0 (Y :: R) w) (hT : T < 140737488353000) : Calls Try.prog 14 #[.pointer (some ⟨rb, 0, none⟩), .int .i64 0] w fun e w' => ∃ Y', e = .returned (.bool true) ∧ RowOK rb n T Y' ∧ Hp w0 (Y' :: R) w' := wt_tells w0 w R rb n T 0 Y hrow hi0 hA hT
theorem RowOK.head {rb n T : Nat} {Y : Seg} (h : RowOK rb n T Y) : ∃ A c cs Z, Y = row rb 31 (.slice A n c :: cs) :: Z := by
  obtain ⟨qs, wsv, isv, lv, wv, held, ks, XW, XI, YB, hn, _, hW, _, _, hY⟩ := h
  obtain ⟨A, c, rfl, _⟩ := hW.slice
  subst hn
  exact ⟨A, c, _, _, hY⟩

set_option maxRecDepth 100000 in
set_option maxHeartbeats 4000000 in
theorem law_writes (w0 : World) (sA : Option Addr) (sC : Nat) (os : List OpX) (hOs : ∀ o ∈ os, (OpOK w0 [] o ∧ OpMore w0 [] o) ∧ PcS w0 [] o.qA o.ps) (hS : Rc w0 [] sA (os.map opC).flatten) (hn : os.length ≤ 9223372036854775807) : Calls Try.prog 4 #[.slice sA os.length sC] w0 fun e w' => e = .returned (.bool true) ∧ At w0 [] w' := by
  have hA : Hp w0 [] w0 := Hp.start w0
  refine vc_enter Try.func4 rfl Try.ntmps4 (Nat.le_of_ble_eq_true rfl) (fun a hF => ?_)
  apply wp_seq_k; intro K1 hK1
  refine wp_region_lit ?_
  refine vc_y hF rfl rfl (by decide) _ (y_assign rfl rfl) (fun a hF => ?_)
  refine vc_nil ?_
  refine hK1 _ _ ?_; clear  hK1 K1
  apply wp_seq_k; intro K2 hK2
  apply wp_seq_k; intro K3 hK3
  refine wp_region_lit ?_
  refine vc_y hF rfl rfl (by decide) _ (y_move rfl rfl) (fun a hF => ?_)
  refine vc_op rfl (fun K hK => ws_call hF rfl (by decide) cl12_lw rfl rfl ?_)
  with_reducible refine (op_beyond w0 _ _ sA sC os (fun o ho => (hOs o ho).1) hS hA hn ).mono ?_
  rintro e' w1 ⟨b0, rfl, hb0, hA2⟩
  refine ⟨_, rfl, fun a hF => hK _ _ ?_⟩
  clear hK K
  replace hA2 : Hp w0 ([]) w1 := hA2
  refine vc_nil ?_
  refine hK3 _ _ ?_; clear  hK3 K3
  by_cases hbb : b0 = true
  · subst hbb
    refine vc_trueB hF rfl rfl ?_
    apply wp_seq_k; intro K4 hK4
    refine wp_region_lit ?_
    refine vc_y hF rfl rfl (by decide) _ (y_assign rfl rfl) (fun a hF => ?_)
    refine vc_nil ?_
    refine hK4 _ _ ?_; clear  hK4 K4
    apply wp_ret
    simp only [Exit.then]
    refine vc_ret1 hF Try.results4 rfl ?_
    exact ⟨rfl, hA2.at0⟩
  · obtain rfl : b0 = false := by simpa using hbb
    have hsum := hb0 rfl
    have h100 := sum_100 os
    refine vc_falseB hF rfl rfl ?_
    apply wp_skip
    refine hK2 _ _ ?_; clear  hK2 K2
    apply wp_seq_k; intro K5 hK5
    refine wp_region_lit ?_
    refine vc_y hF rfl rfl (by decide) _ (y_build (qs := #[]) rfl rfl lw_build0) (fun a hF => ?_)
    refine vc_op rfl (fun K hK => hs_box (cs := [.slice none 0 0, .slice none 0 0, .slice none 0 0, .slice none 0 0, .int .i64 0, .bool false]) hF rfl (by decide) rfl hA2 rfl (fun b3 w4 a hb3 hF hA5 => hK _ _ ?_))
    clear hK K
    replace hA5 : Hp w0 ([row b3 31 [.slice none 0 0, .slice none 0 0, .slice none 0 0, .slice none 0 0, .int .i64 0, .bool false]] :: []) w4 := hA5
    refine vc_y hF rfl rfl (by decide) _ (y_assign rfl rfl) (fun a hF => ?_)
    refine vc_nil ?_
    refine hK5 _ _ ?_; clear  hK5 K5
    apply wp_seq_k; intro K6 hK6
    have hrow : RowOK b3 0 0 [row b3 31 [.slice none 0 0, .slice none 0 0, .slice none 0 0, .slice none 0 0, .int .i64 0, .bool false]] := ⟨[], _, _, _, _, 0, [], [], [], [], rfl, (fun q h => by cases h), Buf.nil _ _, Buf.nil _ _, BookV.new _ _ _ _, rfl⟩
    obtain ⟨Y0, hY0⟩ : ∃ Y, Y = [row b3 31 [.slice none 0 0, .slice none 0 0, .slice none 0 0, .slice none 0 0, .int .i64 0, .bool false]] := ⟨_, rfl⟩
    rw [← hY0] at hrow hA5
    refine wp_region_lit ?_
    refine vc_y hF rfl rfl (by decide) _ (y_move rfl rfl) (fun a hF => ?_)
    refine vc_y hF rfl rfl (by decide) _ (y_build (qs := #[(0, .int .i64 13)]) rfl rfl lw_build1) (fun a hF => ?_)
    refine vc_op rfl (fun K hK => ws_call hF rfl (by decide) cl13_lw rfl rfl ?_)
    with_reducible refine (wt_writes w0 _ [] b3 0 0 _ opNew opNew_ok opNew_pc (by rw [opNew_c]; decide) hrow (.inr rfl) (by decide) hA5 (by rw [opNew_c]; decide) ).mono ?_
    rintro e' w6 ⟨n1, Y1, rfl, hn1, hrow, hA7⟩
    refine ⟨_, rfl, fun a hF => hK _ _ ?_⟩
    clear hK K
    replace hA7 : Hp w0 (Y1 :: []) w6 := hA7
    obtain rfl : n1 = 1 := hn1
    replace hrow := hrow.mono (T' := 400) (by rw [opNew_c]; decide)
    refine vc_y hF rfl rfl (by decide) _ (y_move rfl rfl) (fun a hF => ?_)
    refine vc_yg hF rfl rfl rfl rfl rfl (by decide) _ (y_move rfl rfl) (fun a hF => ?_)
    refine vc_yg hF rfl rfl rfl rfl rfl (by decide) _ (y_build (qs := #[(0, .int .i64 2), (2, .int .u64 515)]) rfl rfl lw_build2) (fun a hF => ?_)
    refine vc_opg hF rfl rfl rfl rfl (fun K hK => ws_call hF rfl (by decide) cl13_lw rfl rfl ?_)
    with_reducible refine (wt_writes w0 _ [] b3 1 400 _ opTwo opTwo_ok opTwo_pc (by rw [opTwo_c]; decide) hrow (.inl (by decide)) (by decide) hA7 (by rw [opTwo_c]; decide) ).mono ?_
    rintro e' w8 ⟨n2, Y2, rfl, hn2, hrow, hA9⟩
    refine ⟨_, rfl, fun a hF => hK _ _ ?_⟩
    clear hK K
    replace hA9 : Hp w0 (Y2 :: []) w8 := hA9
    obtain rfl : n2 = 1 := hn2
    replace hrow := hrow.mono (T' := 800) (by rw [opTwo_c]; decide)
    refine vc_y hF rfl rfl (by decide) _ (y_pick rfl rfl rfl) (fun a hF => ?_)
    refine vc_y hF rfl rfl (by decide) _ (y_move rfl rfl) (fun a hF => ?_)
    refine vc_yg hF rfl rfl rfl rfl rfl (by decide) _ (y_move rfl rfl) (fun a hF => ?_)
    refine vc_opg hF rfl rfl rfl rfl (fun K hK => hs_bs (qs := #[(0, strV [98]), (1, strV [97])]) (cells := #[strV [98], strV [97]]) hF rfl (by decide) rfl hA9 rfl lw_bsS (fun g2 w10 a hg2 hF hA11 => hK _ _ ?_))
    clear hK K
    replace hA11 : Hp w0 ([row g2 9 [strV [98], strV [97]]] :: Y2 :: []) w10 := hA11
    obtain ⟨oT, hoT⟩ : ∃ o, o = opTexts g2 := ⟨_, rfl⟩
    obtain ⟨hoTk, hoTc⟩ : oT.kind = 10 ∧ opCost oT = 104 := by rw [hoT]; exact ⟨rfl, rfl⟩
    have hoTo : ∀ {R : List Seg}, Rc w0 R (some ⟨g2, 0, none⟩) [strV [98], strV [97]] → OpOK w0 R oT := fun h => hoT ▸ opTexts_ok h
    have hoTp : ∀ {R : List Seg}, PcS w0 R oT.qA oT.ps := hoT ▸ opTexts_pc
    refine vc_yg hF rfl rfl rfl rfl rfl (by decide) _ (y_build (qs := #[(0, .int .i64 10), (9, .slice (some ⟨g2, 0, none⟩) 2 2), (10, .int .i64 2), (11, .int .i64 1)]) rfl rfl (hoT ▸ lw_build3 g2)) (fun a hF => ?_)
    have hA12 : Hp w0 (Y2 :: [row g2 9 [strV [98], strV [97]]] :: []) w10 := Hp.ord [[row g2 9 [strV [98], strV [97]]], Y2] [] [1, 0] hA11 rfl
    refine vc_opg hF rfl rfl rfl rfl (fun K hK => ws_call hF rfl (by decide) cl13_lw rfl rfl ?_)
    with_reducible refine (wt_writes w0 _ ([row g2 9 [strV [98], strV [97]]] :: []) b3 1 800 _ oT (hoTo (Rc.ofRow (i := 0) (off := 0) rfl rfl)) hoTp (by rw [hoTc]; decide) hrow (.inl (by decide)) (by decide) hA12 (by rw [hoTc]; decide) ).mono ?_
    rintro e' w13 ⟨n3, Y3, rfl, hn3, hrow, hA14⟩
    refine ⟨_, rfl, fun a hF => hK _ _ ?_⟩
    clear hK K
    replace hA14 : Hp w0 (Y3 :: [row g2 9 [strV [98], strV [97]]] :: []) w13 := hA14
    rw [hoTk, if_neg (by decide)] at hn3
    subst hn3
    replace hrow := hrow.mono (T' := 1216) (by rw [hoTc]; decide)
    refine vc_y hF rfl rfl (by decide) _ (y_pick rfl rfl rfl) (fun a hF => ?_)
    refine vc_y hF rfl rfl (by decide) _ (y_move rfl rfl) (fun a hF => ?_)
    refine vc_yg hF rfl rfl rfl rfl rfl (by decide) _ (y_move rfl rfl) (fun a hF => ?_)
    refine vc_opg hF rfl rfl rfl rfl (fun K hK => ws_call hF rfl (by decide) cl14_lw rfl rfl ?_)
    with_reducible refine (lw_tells0 w0 _ ([row g2 9 [strV [98], strV [97]]] :: []) b3 1 1216 _ hrow (by decide) hA14 (by decide) ).mono ?_
    rintro e' w15 ⟨Y4, rfl, hrow, hA16⟩
    refine ⟨_, rfl, fun a hF => hK _ _ ?_⟩
    clear hK K
    replace hA16 : Hp w0 (Y4 :: [row g2 9 [strV [98], strV [97]]] :: []) w15 := hA16
    refine vc_y hF rfl rfl (by decide) _ (y_pick rfl rfl rfl) (fun a hF => ?_)
    refine vc_y hF rfl rfl (by decide) _ (y_assign rfl rfl) (fun a hF => ?_)
    refine vc_nil ?_
    refine hK6 _ _ ?_; clear  hK6 K6
    apply wp_seq_k; intro K7 hK7
    apply wp_seq_k; intro K8 hK8
    refine wp_region_lit ?_
    refine vc_y hF rfl rfl (by decide) _ (y_move rfl rfl) (fun a hF => ?_)
    refine vc_y hF rfl rfl (by decide) _ (y_not rfl rfl rfl) (fun a hF => ?_)
    refine vc_nil ?_
    refine hK8 _ _ ?_; clear  hK8 K8
    refine vc_false hF rfl ?_
    apply wp_skip
    refine hK7 _ _ ?_; clear  hK7 K7
    apply wp_seq_k; intro K9 hK9
    apply wp_seq_k; intro K10 hK10
    refine wp_region_lit ?_
    refine vc_y hF rfl rfl (by decide) _ (y_assign rfl rfl) (fun a hF => ?_)
    refine vc_nil ?_
    refine hK10 _ _ ?_; clear  hK10 K10
    apply wp_block
    have hA17 : Hp w0 (Y4 :: []) w15 := Hp.sel [Y4, [row g2 9 [strV [98], strV [97]]]] [] [0] [1] hA16 rfl
    refine vc_loop (G := Nat) (fun i a x => ∃ (n : Nat) (Y : Seg), i ≤ os.length ∧ (0 < n ∧ n ≤ i + 1) ∧ RowOK b3 n (1216 + 4 * ((os.take i).map opCost).sum) Y ∧ Fr 66 [(5, .int .i64 (i : Int)), (0, .slice sA os.length sC), (3, .pointer (some ⟨b3, 0, none⟩))] a ∧ Hp w0 (Y :: []) x) (fun i => os.length - i) 0 (⟨1, _, Nat.zero_le _, ⟨by decide, by decide⟩, hrow, hF.keep [5, 0, 3] rfl, hA17⟩) ?_
    clear hF
    rintro i a w19 ⟨n, Y, hi, hn1, hrow, hF, hA18⟩
    apply wp_seq_k; intro K11 hK11
    apply wp_seq_k; intro K12 hK12
    refine wp_region_lit ?_
    refine vc_y hF rfl rfl (by decide) _ (y_move rfl rfl) (fun a hF => ?_)
    refine vc_y hF rfl rfl (by decide) _ (y_move rfl rfl) (fun a hF => ?_)
    refine vc_y hF rfl rfl (by decide) _ (y_lenSl rfl Try.underlying23 rfl rfl) (fun a hF => ?_)
    refine vc_y hF rfl rfl (by decide) _ (y_cmp rfl rfl rfl rfl rfl) (fun a hF => ?_)
    refine vc_nil ?_
    refine hK12 _ _ ?_; clear  hK12 K12
    by_cases hlt : i < os.length
    · refine vc_trueB hF rfl (lss_t (by omega)) ?_
      obtain ⟨o, ho⟩ : ∃ o, os[i]? = some o := ⟨_, List.getElem?_eq_getElem hlt⟩
      obtain ⟨⟨hok, _⟩, hPc⟩ := hOs o (List.mem_of_getElem? ho)
      obtain ⟨hat, hle⟩ := flat_at (z := 12) (Ws := os.map opC) (V := opC o) (i := i) (fun V hV => by obtain ⟨u, _, rfl⟩ := List.mem_map.1 hV; rfl) (by rw [List.getElem?_map, ho]; rfl)
      obtain ⟨b, q, rfl, hc⟩ := hS.ne (i := i * 12) (by omega)
      have hst : ((os.take (i + 1)).map opCost).sum = ((os.take i).map opCost).sum + opCost o := by rw [List.take_add_one, ho]; simp
      have hsl := sum_take_le opCost os (i + 1)
      apply wp_skip
      refine hK11 _ _ ?_; clear  hK11 K11
      apply wp_seq_k; intro K13 hK13
      apply wp_block
      apply wp_seq_k; intro K14 hK14
      refine wp_region_lit ?_
      refine vc_y hF rfl rfl (by decide) _ (y_move rfl rfl) (fun a hF => ?_)
      refine vc_y hF rfl rfl (by decide) _ (y_move rfl rfl) (fun a hF => ?_)
      refine vc_y hF rfl rfl (by decide) _ (y_move rfl rfl) (fun a hF => ?_)
      refine vc_y hF rfl rfl (by decide) _ (y_ixSl rfl Try.underlying23 sz38_lw rfl rfl i rfl hlt rfl) (fun a hF => ?_)
      refine vc_y hF rfl rfl (by decide) _ (y_ldRowC (new := opC o) rfl (Hq.sub hA18.q (List.nil_subset _)) rfl hc (i * 12) hle rfl hat rw38_lw) (fun a hF => ?_)
      refine vc_op rfl (fun K hK => ws_call hF rfl (by decide) cl13_lw rfl rfl ?_)
      with_reducible refine (wt_writes w0 _ [] b3 n _ _ o (hok.mono (List.nil_subset _)) (hPc.mono (List.nil_subset _)) (by omega) hrow (.inl hn1.1) (by omega) hA18 (by omega) ).mono ?_
      rintro e' w20 ⟨n5, Y5, rfl, hn5, hrow5, hA21⟩
      refine ⟨_, rfl, fun a hF => hK _ _ ?_⟩
      clear hK K
      replace hA21 : Hp w0 (Y5 :: []) w20 := hA21
      refine vc_y hF rfl rfl (by decide) _ (y_assign rfl rfl) (fun a hF => ?_)
      refine vc_nil ?_
      refine hK14 _ _ ?_; clear  hK14 K14
      apply wp_seq_k; intro K15 hK15
      refine wp_region_lit ?_
      refine vc_y hF rfl rfl (by decide) _ (y_move rfl rfl) (fun a hF => ?_)
      refine vc_y hF rfl rfl (by decide) _ (y_not rfl rfl rfl) (fun a hF => ?_)
      refine vc_nil ?_
      refine hK15 _ _ ?_; clear  hK15 K15
      refine vc_false hF rfl ?_
      apply wp_skip
      refine hK13 _ _ ?_; clear  hK13 K13
      refine wp_region_lit ?_
      refine vc_y hF rfl rfl (by decide) _ (y_move rfl rfl) (fun a hF => ?_)
      refine vc_y hF rfl rfl (by decide) _ (y_add rfl rfl rfl (IntWalk.i64_in _ (by omega))) (fun a hF => ?_)
      refine vc_y hF rfl rfl (by decide) _ (y_assign rfl rfl) (fun a hF => ?_)
      refine vc_nil ?_
      have hn6 : 0 < n5 ∧ n5 ≤ (i + 1) + 1 := by
        rw [hn5]
        split <;> omega
      exact ⟨i + 1, by omega, n5, Y5, by omega, hn6, (hrow5.mono (by omega)), hF.keep [5, 0, 3] rfl, hA21⟩
    · refine vc_falseB hF rfl (lss_f (by omega)) ?_
      obtain rfl : i = os.length := by omega
      rw [List.take_length] at hrow
      apply wp_exit
      refine hK9 _ _ ?_; clear hK11 K11 hK9 K9
      apply wp_seq_k; intro K16 hK16
      apply wp_seq_k; intro K17 hK17
      refine wp_region_lit ?_
      refine vc_y hF rfl rfl (by decide) _ (y_assign rfl rfl) (fun a hF => ?_)
      refine vc_nil ?_
      refine hK17 _ _ ?_; clear  hK17 K17
      apply wp_block
      refine vc_loop (G := Nat) (fun i a x => ∃ (Y : Seg), RowOK b3 n (1216 + 4 * (os.map opCost).sum) Y ∧ Fr 66 [(6, .int .i64 (i : Int)), (3, .pointer (some ⟨b3, 0, none⟩))] a ∧ Hp w0 (Y :: []) x) (fun i => 50 - i) 0 (⟨_, hrow, hF.keep [6, 3] rfl, hA18⟩) ?_
      clear hF
      rintro i a w23 ⟨Y, hrow, hF, hA22⟩
      obtain ⟨AW, cW, cs, Z, rfl⟩ := hrow.head
      by_cases hlt2 : i < n
      · by_cases hl5 : i < 50
        · apply wp_seq_k; intro K18 hK18
          apply wp_seq_k; intro K19 hK19
          refine wp_region_lit ?_
          refine vc_y hF rfl rfl (by decide) _ (y_move rfl rfl) (fun a hF => ?_)
          refine vc_y hF rfl rfl (by decide) _ (y_move rfl rfl) (fun a hF => ?_)
          refine vc_y hF rfl rfl (by decide) _ (y_nilCheck rfl rfl) (fun a hF => ?_)
          refine vc_y hF rfl rfl (by decide) _ (y_field rfl Try.underlying31 rfl sz26_lw (by decide) rfl (rfl : (⟨_, 0 + _, none⟩ : Addr) = ⟨_, 0, none⟩)) (fun a hF => ?_)
          refine vc_y hF rfl rfl (by decide) _ (y_ld rfl hA22.q rfl 0 rfl rfl nr26_lw) (fun a hF => ?_)
          refine vc_y hF rfl rfl (by decide) _ (y_lenSl rfl Try.underlying26 rfl rfl) (fun a hF => ?_)
          refine vc_y hF rfl rfl (by decide) _ (y_cmp rfl rfl rfl rfl (lss_t (by omega))) (fun a hF => ?_)
          refine vc_y hF rfl rfl (by decide) _ (y_move rfl rfl) (fun a hF => ?_)
          refine vc_yg hF rfl rfl rfl rfl rfl (by decide) _ (y_move rfl rfl) (fun a hF => ?_)
          refine vc_yg hF rfl rfl rfl rfl rfl (by decide) _ (y_cmp rfl rfl rfl rfl (lss_t (by omega))) (fun a hF => ?_)
          refine vc_y hF rfl rfl (by decide) _ (y_pick rfl rfl rfl) (fun a hF => ?_)
          refine vc_nil ?_
          refine hK19 _ _ ?_; clear  hK19 K19
          refine vc_true hF rfl ?_
          apply wp_skip
          refine hK18 _ _ ?_; clear  hK18 K18
          apply wp_seq_k; intro K20 hK20
          apply wp_block
          apply wp_seq_k; intro K21 hK21
          refine wp_region_lit ?_
          refine vc_y hF rfl rfl (by decide) _ (y_move rfl rfl) (fun a hF => ?_)
          refine vc_y hF rfl rfl (by decide) _ (y_move rfl rfl) (fun a hF => ?_)
          refine vc_op rfl (fun K hK => ws_call hF rfl (by decide) cl14_lw rfl rfl ?_)
          with_reducible refine (wt_tells w0 _ [] b3 n _ i _ hrow hlt2 hA22 (by omega) ).mono ?_
          rintro e' w24 ⟨Y6, rfl, hrow6, hA25⟩
          refine ⟨_, rfl, fun a hF => hK _ _ ?_⟩
          clear hK K
          replace hA25 : Hp w0 (Y6 :: []) w24 := hA25
          refine vc_y hF rfl rfl (by decide) _ (y_not rfl rfl rfl) (fun a hF => ?_)
          refine vc_nil ?_
          refine hK21 _ _ ?_; clear  hK21 K21
          refine vc_false hF rfl ?_
          apply wp_skip
          refine hK20 _ _ ?_; clear  hK20 K20
          refine wp_region_lit ?_
          refine vc_y hF rfl rfl (by decide) _ (y_move rfl rfl) (fun a hF => ?_)
          refine vc_y hF rfl rfl (by decide) _ (y_add rfl rfl rfl (IntWalk.i64_in _ (by omega))) (fun a hF => ?_)
          refine vc_y hF rfl rfl (by decide) _ (y_assign rfl rfl) (fun a hF => ?_)
          refine vc_nil ?_
          exact ⟨i + 1, by omega, Y6, hrow6, hF.keep [6, 3] rfl, hA25⟩
        · apply wp_seq_k; intro K22 hK22
          apply wp_seq_k; intro K23 hK23
          refine wp_region_lit ?_
          refine vc_y hF rfl rfl (by decide) _ (y_move rfl rfl) (fun a hF => ?_)
          refine vc_y hF rfl rfl (by decide) _ (y_move rfl rfl) (fun a hF => ?_)
          refine vc_y hF rfl rfl (by decide) _ (y_nilCheck rfl rfl) (fun a hF => ?_)
          refine vc_y hF rfl rfl (by decide) _ (y_field rfl Try.underlying31 rfl sz26_lw (by decide) rfl (rfl : (⟨_, 0 + _, none⟩ : Addr) = ⟨_, 0, none⟩)) (fun a hF => ?_)
          refine vc_y hF rfl rfl (by decide) _ (y_ld rfl hA22.q rfl 0 rfl rfl nr26_lw) (fun a hF => ?_)
          refine vc_y hF rfl rfl (by decide) _ (y_lenSl rfl Try.underlying26 rfl rfl) (fun a hF => ?_)
          refine vc_y hF rfl rfl (by decide) _ (y_cmp rfl rfl rfl rfl (lss_t (by omega))) (fun a hF => ?_)
          refine vc_y hF rfl rfl (by decide) _ (y_move rfl rfl) (fun a hF => ?_)
          refine vc_yg hF rfl rfl rfl rfl rfl (by decide) _ (y_move rfl rfl) (fun a hF => ?_)
          refine vc_yg hF rfl rfl rfl rfl rfl (by decide) _ (y_cmp rfl rfl rfl rfl (lss_f (by omega))) (fun a hF => ?_)
          refine vc_y hF rfl rfl (by decide) _ (y_pick rfl rfl rfl) (fun a hF => ?_)
          refine vc_nil ?_
          refine hK23 _ _ ?_; clear  hK23 K23
          refine vc_false hF rfl ?_
          apply wp_exit
          refine hK16 _ _ ?_; clear hK22 K22 hK16 K16
          apply wp_seq_k; intro K24 hK24
          obtain ⟨qs, wsv, isv, lv, wv, held, ks, XW, XI, YB, hn0, hqs, hW, hI, hB, hYe⟩ := hrow
          rw [hYe] at hA22
          have hA26 : Hp w0 ([row b3 31 [wsv, isv, lv, wv, .int .i64 held, .bool false]] :: XW :: XI :: YB :: (qs.map wxS).flatten :: []) w23 := hA22.cast (by simp)
          have hA27 : Hp w0 ([row b3 31 [wsv, isv, lv, wv, .int .i64 held, .bool false]] :: YB :: XW :: XI :: (qs.map wxS).flatten :: []) w23 := Hp.ord [[row b3 31 [wsv, isv, lv, wv, .int .i64 held, .bool false]], XW, XI, YB, (qs.map wxS).flatten] [] [0, 3, 1, 2, 4] hA26 rfl
          refine wp_region_lit ?_
          refine vc_y hF rfl rfl (by decide) _ (y_move rfl rfl) (fun a hF => ?_)
          refine vc_y hF rfl rfl (by decide) _ (y_nilCheck rfl rfl) (fun a hF => ?_)
          refine vc_y hF rfl rfl (by decide) _ (y_field rfl Try.underlying31 rfl sz29_lw (by decide) rfl (rfl : (⟨_, 0 + _, none⟩ : Addr) = ⟨_, 2, none⟩)) (fun a hF => ?_)
          refine vc_op rfl (fun K hK => ws_call hF rfl (by decide) cl15_lw rfl rfl ?_)
          with_reducible refine (kb_apart_byte_2_0 w0 _ (XW :: XI :: (qs.map wxS).flatten :: []) b3 16 ks YB kb_mb (fun _ _ => rfl) cl16_lw (kb_mark_byte w0) hB hA27 ).mono ?_
          rintro e' w28 ⟨rfl, hA29⟩
          refine ⟨_, rfl, fun a hF => hK _ _ ?_⟩
          clear hK K
          replace hA29 : Hp w0 ([row b3 31 [wsv, isv, .slice none 0 0, .slice none 0 0, .int .i64 0, .bool false]] :: XW :: XI :: (qs.map wxS).flatten :: []) w28 := hA29
          refine vc_y hF rfl rfl (by decide) _ (y_assign rfl rfl) (fun a hF => ?_)
          refine vc_nil ?_
          refine hK24 _ _ ?_; clear  hK24 K24
          apply wp_ret
          refine vc_ret1 hF Try.results4 rfl ?_
          exact ⟨rfl, hA29.at0⟩
      · apply wp_seq_k; intro K25 hK25
        apply wp_seq_k; intro K26 hK26
        refine wp_region_lit ?_
        refine vc_y hF rfl rfl (by decide) _ (y_move rfl rfl) (fun a hF => ?_)
        refine vc_y hF rfl rfl (by decide) _ (y_move rfl rfl) (fun a hF => ?_)
        refine vc_y hF rfl rfl (by decide) _ (y_nilCheck rfl rfl) (fun a hF => ?_)
        refine vc_y hF rfl rfl (by decide) _ (y_field rfl Try.underlying31 rfl sz26_lw (by decide) rfl (rfl : (⟨_, 0 + _, none⟩ : Addr) = ⟨_, 0, none⟩)) (fun a hF => ?_)
        refine vc_y hF rfl rfl (by decide) _ (y_ld rfl hA22.q rfl 0 rfl rfl nr26_lw) (fun a hF => ?_)
        refine vc_y hF rfl rfl (by decide) _ (y_lenSl rfl Try.underlying26 rfl rfl) (fun a hF => ?_)
        refine vc_y hF rfl rfl (by decide) _ (y_cmp rfl rfl rfl rfl (lss_f (by omega))) (fun a hF => ?_)
        refine vc_y hF rfl rfl (by decide) _ (y_move rfl rfl) (fun a hF => ?_)
        refine vc_skip hF rfl rfl rfl rfl rfl rfl (by decide) (fun a hF => ?_)
        refine vc_skip hF rfl rfl rfl rfl rfl rfl (by decide) (fun a hF => ?_)
        refine vc_y hF rfl rfl (by decide) _ (y_pick rfl rfl rfl) (fun a hF => ?_)
        refine vc_nil ?_
        refine hK26 _ _ ?_; clear  hK26 K26
        refine vc_false hF rfl ?_
        apply wp_exit
        refine hK16 _ _ ?_; clear hK25 K25 hK16 K16
        apply wp_seq_k; intro K27 hK27
        obtain ⟨qs, wsv, isv, lv, wv, held, ks, XW, XI, YB, hn0, hqs, hW, hI, hB, hYe⟩ := hrow
        rw [hYe] at hA22
        have hA30 : Hp w0 ([row b3 31 [wsv, isv, lv, wv, .int .i64 held, .bool false]] :: XW :: XI :: YB :: (qs.map wxS).flatten :: []) w23 := hA22.cast (by simp)
        have hA31 : Hp w0 ([row b3 31 [wsv, isv, lv, wv, .int .i64 held, .bool false]] :: YB :: XW :: XI :: (qs.map wxS).flatten :: []) w23 := Hp.ord [[row b3 31 [wsv, isv, lv, wv, .int .i64 held, .bool false]], XW, XI, YB, (qs.map wxS).flatten] [] [0, 3, 1, 2, 4] hA30 rfl
        refine wp_region_lit ?_
        refine vc_y hF rfl rfl (by decide) _ (y_move rfl rfl) (fun a hF => ?_)
        refine vc_y hF rfl rfl (by decide) _ (y_nilCheck rfl rfl) (fun a hF => ?_)
        refine vc_y hF rfl rfl (by decide) _ (y_field rfl Try.underlying31 rfl sz29_lw (by decide) rfl (rfl : (⟨_, 0 + _, none⟩ : Addr) = ⟨_, 2, none⟩)) (fun a hF => ?_)
        refine vc_op rfl (fun K hK => ws_call hF rfl (by decide) cl15_lw rfl rfl ?_)
        with_reducible refine (kb_apart_byte_2_0 w0 _ (XW :: XI :: (qs.map wxS).flatten :: []) b3 16 ks YB kb_mb (fun _ _ => rfl) cl16_lw (kb_mark_byte w0) hB hA31 ).mono ?_
        rintro e' w32 ⟨rfl, hA33⟩
        refine ⟨_, rfl, fun a hF => hK _ _ ?_⟩
        clear hK K
        replace hA33 : Hp w0 ([row b3 31 [wsv, isv, .slice none 0 0, .slice none 0 0, .int .i64 0, .bool false]] :: XW :: XI :: (qs.map wxS).flatten :: []) w32 := hA33
        refine vc_y hF rfl rfl (by decide) _ (y_assign rfl rfl) (fun a hF => ?_)
        refine vc_nil ?_
        refine hK27 _ _ ?_; clear  hK27 K27
        apply wp_ret
        refine vc_ret1 hF Try.results4 rfl ?_
        exact ⟨rfl, hA33.at0⟩
end Go.Proofs.Ythphfbohhbkdgaa
