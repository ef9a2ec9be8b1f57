/- The law SparseOrder walked. -/
import Derived.Test.YtpomngkcfbnjoaaDoorSpO
import Derived.Test.YtpomngkcfbnjoaaDoorSw
import Derived.Test.YtpomngkcfbnjoaaDoorLawTwice
namespace Go.Proofs.YtpomngkcfbnjoaaDoor
open Go.RowKit Go.Dk

theorem ro_nil (w : World) : (Instr.buildSlice 55 0 #[]).run Tryd.prog w = .ok (.slice (some ⟨w.heap.size, 0, none⟩) 0 0) (w.alloc (.cells #[] 54)) := by kernel_rfl
theorem ro_eSlice (g : Nat) : Buf 54 65 [row g 54 []] (.slice (some ⟨g, 0, none⟩) 0 0) 0 [] := Buf.full rfl (Nat.zero_le _)
theorem mid_cells {w0 : World} {R : List Seg} {g : Nat} {e : TypeId} {B W Z : List Value} (hX : [row g e (B ++ W ++ Z)] ∈ R) : ∀ x, Hq w0 R x → g < x.heap.size ∧ ∀ i, i < W.length → x.cell? ⟨g, B.length + i, none⟩ = W[i]? := fun x hx => by
  have hr := hx.mem hX (r := row g e (B ++ W ++ Z)) (List.mem_cons_self ..)
  refine ⟨lt_of_row hr, fun i hi => ?_⟩
  rw [cell_of_row x g (B.length + i) _ e (0, 0) hr, List.getElem?_toArray, List.append_assoc, List.getElem?_append_right (Nat.le_add_right _ _), Nat.add_sub_cancel_left, List.getElem?_append_left hi]
theorem itm_len (l : List Itm) (h : ∀ i ∈ l, i.OK) : ∀ y ∈ l, (Itm.cells y).length = 65 := fun y hy => Itm.len (h y hy)
theorem cel_len65 {l : List Itm} (h : ∀ i ∈ l, i.OK) : (cel Itm.cells l).length = l.length * 65 := cel_len (itm_len l h)
theorem u8_wrap (n : Nat) : IntKind.u8.wrap (n : Int) = ((UInt8.ofNat n).toNat : Int) := by
  rw [IntKind.wrap_u8]
  show ((n : Int)) % 256 = _
  rw [UInt8.toNat_ofNat']
  omega
set_option maxRecDepth 100000 in
theorem ro_dig (b : UInt8) (w : World) : (Instr.build 23 #[(0, .int .u8 (b.toNat : Int))]).run Tryd.prog w = .ok (.agg (dc (b :: List.replicate 31 0)).toArray) w := by kernel_rfl
set_option maxRecDepth 100000 in
theorem ro_ent0 (c : Int) (g : Nat → UInt8) (w : World) : (Instr.build 25 #[(0, .int .i64 c), (1, .agg (dc ((List.range 32).map g)).toArray)]).run Tryd.prog w = .ok (.agg (.int .i64 c :: dc ((List.range 32).map g)).toArray) w := by kernel_rfl
theorem ro_ent (c : Int) {X : List UInt8} (h : X.length = 32) (w : World) : (Instr.build 25 #[(0, .int .i64 c), (1, .agg (dc X).toArray)]).run Tryd.prog w = .ok (.agg (.int .i64 c :: dc X).toArray) w := by
  have h1 := ro_ent0 c (bAt X) w
  rw [list32 h] at h1
  exact h1
theorem tv_one {w0 : World} {G : List Seg} {L : List Itm} {top sl : Value} (h : TV w0 G L top sl) : ∀ v ∈ ([top, sl] : List Value), v.oneCell' = true := fun v hv => by
  simp only [List.mem_cons, List.not_mem_nil, or_false] at hv
  rcases hv with rfl | rfl
  · exact h.one.1
  · exact h.one.2
theorem tv_join {w0 : World} {X Y : Seg} {L : List Itm} {top sl : Value} (h : TV w0 [X, Y] L top sl) : TV w0 [X ++ Y] L top sl := h.monoF (fun r hr => by simpa using hr)
theorem insL_lenle {i : Itm} {l : List Itm} {n : Nat} (h : l.length ≤ n) : (insL i l).length ≤ n + 1 := Nat.le_trans (insL_len l) (by omega)
theorem u8_key {i : Itm} (hi : i.OK) (n : Nat) : okC (earlyI i n) = true := rfl
theorem nr3_s17 : notRow Tryd.prog 3 = true := by kernel_rfl
theorem rw23_s17 : isRow Tryd.prog 23 32 = true := by kernel_rfl
theorem rw25_s17 : isRow Tryd.prog 25 33 = true := by kernel_rfl
theorem rw45_s17 : isRow Tryd.prog 45 2 = true := by kernel_rfl
theorem rw54_s17 : isRow Tryd.prog 54 65 = true := by kernel_rfl
theorem sz3_s17 : (Tryd.prog.info? 3).map (·.size) = some 1 := by kernel_rfl
theorem sz5_s17 : (Tryd.prog.info? 5).map (·.size) = some 1 := by kernel_rfl
theorem sz23_s17 : (Tryd.prog.info? 23).map (·.size) = some 32 := by kernel_rfl
theorem sz25_s17 : (Tryd.prog.info? 25).map (·.size) = some 33 := by kernel_rfl
theorem sz45_s17 : (Tryd.prog.info? 45).map (·.size) = some 2 := by kernel_rfl
theorem sz54_s17 : (Tryd.prog.info? 54).map (·.size) = some 65 := by kernel_rfl
theorem cl18_s17 : CallsTo Tryd.prog 18 := ⟨_, Tryd.func18, by kernel_rfl, by kernel_rfl⟩
theorem cl20_s17 : CallsTo Tryd.prog 20 := ⟨_, Tryd.func20, by kernel_rfl, by kernel_rfl⟩
theorem cl22_s17 : CallsTo Tryd.prog 22 := ⟨_, Tryd.func22, by kernel_rfl, by kernel_rfl⟩
theorem cl24_s17 : CallsTo Tryd.prog 24 := ⟨_, Tryd.func24, by kernel_rfl, by kernel_rfl⟩
theorem cl30_s17 : CallsTo Tryd.prog 30 := ⟨_, Tryd.func30, by kernel_rfl, by kernel_rfl⟩
theorem cl31_s17 : CallsTo Tryd.prog 31 := ⟨_, Tryd.func31, by kernel_rfl, by kernel_rfl⟩
theorem cl32_s17 : CallsTo Tryd.prog 32 := ⟨_, Tryd.func32, by kernel_rfl, by kernel_rfl⟩
theorem cl36_s17 : CallsTo Tryd.prog 36 := ⟨_, Tryd.func36, by kernel_rfl, by kernel_rfl⟩
theorem cl40_s17 : CallsTo Tryd.prog 40 := ⟨_, Tryd.func40, by kernel_rfl, by kernel_rfl⟩
theorem cl42_s17 : CallsTo Tryd.prog 42 := ⟨_, Tryd.func42, by kernel_rfl, by kernel_rfl⟩

theorem zr45_s17 : zeroIs Tryd.prog 45 (.agg ([.pointer none, .slice none 0 0] : List Value).toArray) := by unfold zeroIs; kernel_rfl

set_option maxRecDepth 100000 in
set_option maxHeartbeats 2000000 in
theorem law_order (w0 : World) (width : Int) (A : Option Addr) (l : List Itm) (n c : Nat) (TA : Option Addr) (ts : List Int) (tc : Nat) (hT : Tab w0) (hln : l.length = n) (hlc : n ≤ c) (hI : ∀ i ∈ l, i.OK) (hL : Rc w0 [] A (cel Itm.cells l)) (hTS : Rc w0 [] TA (ts.map (Value.int .i64))) : Calls Tryd.prog 8 #[.int .i64 width, .slice A n c, .slice TA ts.length tc] w0 fun e w' => e = .returned (.bool true) ∧ At w0 [] w' := by
  have hA : Hp w0 [] w0 := Hp.start w0
  obtain ⟨l0, hl0⟩ : ∃ l0, l0 = l.take 24 := ⟨_, rfl⟩
  have hN : min n 24 = l0.length := by rw [hl0, List.length_take, hln]; omega
  have hI0 : ∀ i ∈ l0, i.OK := fun i hi => hI i (by rw [hl0] at hi; exact List.mem_of_mem_take hi)
  have hN2 : l0.length ≤ c ∧ l0.length ≤ 24 := by omega
  have hL0 : Rc w0 [] A (cel Itm.cells l0) := by rw [hl0]; exact rs_take 24 hI hL
  clear hl0
  refine vc_enter Tryd.func8 rfl Tryd.ntmps8 (Nat.le_of_ble_eq_true rfl) (fun a hF => ?_)
  apply wp_seq_k; intro K1 hK1
  refine wp_region_lit ?_
  refine vc_y hF rfl rfl (by decide) _ (y_assign rfl rfl) (fun a hF => ?_)
  refine vc_nil ?_
  refine hK1 _ _ ?_; clear  hK1 K1
  apply wp_seq_k; intro K2 hK2
  refine wp_region_lit ?_
  refine vc_y hF rfl rfl (by decide) _ (y_move rfl rfl) (fun a hF => ?_)
  refine vc_op rfl (fun K hK => ws_call hF rfl (by decide) cl32_s17 rfl rfl ?_)
  with_reducible refine ((show Calls Tryd.prog 32 #[.slice A n c, .int .i64 24] _ _ from rr_fewI w0 _ [] A n 24 c (by omega) hA) ).mono ?_
  rintro e' w1 ⟨rfl, hA2⟩
  refine ⟨_, rfl, fun a hF => hK _ _ ?_⟩
  clear hK K
  replace hA2 : Hp w0 ([]) w1 := hA2
  rw [hN] at hF
  refine vc_y hF rfl rfl (by decide) _ (y_assign rfl rfl) (fun a hF => ?_)
  refine vc_nil ?_
  refine hK2 _ _ ?_; clear  hK2 K2
  apply wp_seq_k; intro K3 hK3
  refine wp_region_lit ?_
  refine vc_y hF rfl rfl (by decide) _ (y_move rfl rfl) (fun a hF => ?_)
  refine vc_op rfl (fun K hK => ws_call hF rfl (by decide) cl30_s17 rfl rfl ?_)
  with_reducible refine (rt_build w0 _ [] [] (List.nil_subset _) [] A l0 c hN2.1 (by omega) hI0 hL0 hT hA2 ).mono ?_
  rintro e' w3 ⟨top1, sl1, X1, rfl, hTV1, hA4⟩
  refine ⟨_, rfl, fun a hF => hK _ _ ?_⟩
  clear hK K
  replace hA4 : Hp w0 (X1 :: []) w3 := hA4
  have tv1 := tv_one hTV1
  refine vc_y hF rfl rfl (by decide) _ (y_move rfl rfl) (fun a hF => ?_)
  refine vc_y hF rfl rfl (by decide) _ (y_extract (v := .agg ([top1, sl1]).toArray) rfl rfl rfl) (fun a hF => ?_)
  refine vc_y hF rfl rfl (by decide) _ (y_extract (v := .int .i64 (((bldS [] l0).1 : Nat) : Int)) rfl rfl rfl) (fun a hF => ?_)
  refine vc_op rfl (fun K hK => hs_alloc hF rfl (by decide) rfl hA4 (zr45_s17) (fun b5 w6 a hb5 hF hA7 => hK _ _ ?_))
  clear hK K
  replace hA7 : Hp w0 ([row b5 45 [.pointer none, .slice none 0 0]] :: X1 :: []) w6 := hA7
  refine vc_op rfl (fun K hK => hs_storeAll (new := [top1, sl1]) hF rfl rfl hA7 rfl rfl 0 rfl rfl tv1 sz45_s17 (fun w8 hA9 => hK _ _ ?_))
  clear hK K
  replace hA9 : Hp w0 ([row b5 45 [top1, sl1]] :: X1 :: []) w8 := hA9
  refine vc_y hF rfl rfl (by decide) _ (y_assign rfl rfl) (fun a hF => ?_)
  refine vc_nil ?_
  refine hK3 _ _ ?_; clear  hK3 K3
  apply wp_seq_k; intro K4 hK4
  refine wp_region_lit ?_
  refine vc_op rfl (fun K hK => hs_bs (qs := #[]) (cells := #[]) hF rfl (by decide) rfl hA9 rfl (by exact ro_nil) (fun b10 w11 a hb10 hF hA12 => hK _ _ ?_))
  clear hK K
  replace hA12 : Hp w0 ([row b10 54 []] :: [row b5 45 [top1, sl1]] :: X1 :: []) w11 := hA12
  have hO0 := ro_eSlice b10
  refine vc_y hF rfl rfl (by decide) _ (y_move rfl rfl) (fun a hF => ?_)
  refine vc_op rfl (fun K hK => hs_append hF rfl (by decide) rfl hA12 0 rfl hO0 Tryd.underlying55 rt_elemI rfl rfl (Rc.srcC (W := cel Itm.cells l0) (m := l0.length) (size := 65) (R := [row b10 54 []] :: [row b5 45 [top1, sl1]] :: X1 :: []) (hL0.mono (List.nil_subset _)) hA12.q Tryd.underlying55 (by decide) (by rw [cel_len65 hI0]) (cells_one l0)) (by omega) (by decide) (fun lv XL w13 a hO1 hF hA14 => hK _ _ ?_))
  clear hK K
  replace hA14 : Hp w0 (XL :: [row b5 45 [top1, sl1]] :: X1 :: []) w13 := hA14
  refine vc_y hF rfl rfl (by decide) _ (y_assign rfl rfl) (fun a hF => ?_)
  refine vc_nil ?_
  refine hK4 _ _ ?_; clear  hK4 K4
  apply wp_seq_k; intro K5 hK5
  apply wp_seq_k; intro K6 hK6
  refine wp_region_lit ?_
  refine vc_y hF rfl rfl (by decide) _ (y_assign rfl rfl) (fun a hF => ?_)
  refine vc_nil ?_
  refine hK6 _ _ ?_; clear  hK6 K6
  rw [Nat.zero_add, List.nil_append] at hO1
  have hFn := hF
  obtain ⟨LA, lc, rfl, hlc1, _⟩ := hO1.cap
  have hF := hFn
  clear hFn
  have hJ : ∀ (a : Act) (x : World) (X : Seg) (mm : List Itm), mm.Perm l0 → Buf 54 65 X (.slice LA l0.length lc) l0.length (cel Itm.cells mm) → Fr 201 [(0, .int .i64 width), (1, .slice A l0.length c), (2, .slice TA ts.length tc), (7, .pointer (some ⟨b5, 0, none⟩)), (8, .int .i64 (((bldS [] l0).1 : Nat) : Int)), (9, .slice LA l0.length lc)] a → Hp w0 (X :: [row b5 45 [top1, sl1]] :: X1 :: []) x → K5 a x := by
    clear hF
    intro a x X mm hp hB hF hAj
    have hml : mm.length = l0.length := hp.length_eq
    have hIm : ∀ i ∈ mm, i.OK := fun i hi => hI0 i (hp.mem_iff.1 hi)
    obtain ⟨hbi, hbe⟩ := bld_perm hp.symm hI0
    have hRm : Rc w0 [X] LA (cel Itm.cells mm) := by
      obtain ⟨_, _, hle, _, h⟩ := hB.rc (w0 := w0) (R := [X]) (List.mem_cons_self ..)
      injection hle with hle1 _ _
      rw [hle1]; exact h
    refine hK5 _ _ ?_; clear  hK5 K5
    apply wp_seq_k; intro K7 hK7
    refine wp_region_lit ?_
    refine vc_y hF rfl rfl (by decide) _ (y_move rfl rfl) (fun a hF => ?_)
    refine vc_op rfl (fun K hK => ws_call hF rfl (by decide) cl30_s17 rfl rfl ?_)
    with_reducible refine ((show Calls Tryd.prog 30 #[.slice LA l0.length lc] _ _ from hml ▸ rt_build w0 _ (X :: [row b5 45 [top1, sl1]] :: X1 :: []) [X] (sub1 ((List.mem_cons_self ..))) [] LA mm lc (by omega) (by omega) hIm hRm hT hAj) ).mono ?_
    rintro e' w15 ⟨top2, sl2, X2, rfl, hTV2, hA16⟩
    refine ⟨_, rfl, fun a hF => hK _ _ ?_⟩
    clear hK K
    replace hA16 : Hp w0 (X2 :: X :: [row b5 45 [top1, sl1]] :: X1 :: []) w15 := hA16
    have tv2 := tv_one hTV2
    refine vc_y hF rfl rfl (by decide) _ (y_move rfl rfl) (fun a hF => ?_)
    refine vc_y hF rfl rfl (by decide) _ (y_extract (v := .agg ([top2, sl2]).toArray) rfl rfl rfl) (fun a hF => ?_)
    refine vc_y hF rfl rfl (by decide) _ (y_extract (v := .int .i64 (((bldS [] mm).1 : Nat) : Int)) rfl rfl rfl) (fun a hF => ?_)
    refine vc_op rfl (fun K hK => hs_alloc hF rfl (by decide) rfl hA16 (zr45_s17) (fun b17 w18 a hb17 hF hA19 => hK _ _ ?_))
    clear hK K
    replace hA19 : Hp w0 ([row b17 45 [.pointer none, .slice none 0 0]] :: X2 :: X :: [row b5 45 [top1, sl1]] :: X1 :: []) w18 := hA19
    refine vc_op rfl (fun K hK => hs_storeAll (new := [top2, sl2]) hF rfl rfl hA19 rfl rfl 0 rfl rfl tv2 sz45_s17 (fun w20 hA21 => hK _ _ ?_))
    clear hK K
    replace hA21 : Hp w0 ([row b17 45 [top2, sl2]] :: X2 :: X :: [row b5 45 [top1, sl1]] :: X1 :: []) w20 := hA21
    refine vc_y hF rfl rfl (by decide) _ (y_assign rfl rfl) (fun a hF => ?_)
    refine vc_nil ?_
    refine hK7 _ _ ?_; clear  hK7 K7
    apply wp_seq_k; intro K8 hK8
    apply wp_seq_k; intro K9 hK9
    by_cases h0 : (bldS [] l0).1 = 0
    · have h02 : (bldS [] mm).1 = 0 := hbi.1 h0
      have hLL := hbe h0
      obtain ⟨hs1, hs2⟩ := bldS_spec (acc := []) (l := mm) List.Pairwise.nil (fun i hi => by cases hi) hIm
      obtain ⟨hct, hnk, _⟩ := hs1.1 h02
      obtain ⟨hris, hmem⟩ := hs2 h02
      have hlen := bld_length hIm h02
      rw [hLL] at hTV1
      obtain ⟨L, hLe⟩ : ∃ L, L = (bldS [] mm).2 := ⟨_, rfl⟩
      rw [← hLe] at hTV1 hTV2 hris hmem hlen
      have hmem' : ∀ x, x ∈ L ↔ x ∈ mm := fun x => by rw [hmem x]; simp
      have hLok := hTV2.ok
      have hLn : L.length = l0.length := by omega
      refine wp_region_lit ?_
      refine vc_y hF rfl rfl (by decide) _ (y_move rfl rfl) (fun a hF => ?_)
      refine vc_y hF rfl rfl (by decide) _ (y_cmp rfl rfl rfl rfl (eql_t (by omega))) (fun a hF => ?_)
      refine vc_y hF rfl rfl (by decide) _ (y_move rfl rfl) (fun a hF => ?_)
      refine vc_y hF rfl rfl (by decide) _ (y_cmp rfl rfl rfl rfl (eql_t (by omega))) (fun a hF => ?_)
      refine vc_y hF rfl rfl (by decide) _ (y_binR (r := .bool false) rfl rfl rfl (fun w => by kernel_rfl)) (fun a hF => ?_)
      refine vc_nil ?_
      refine hK9 _ _ ?_; clear  hK9 K9
      refine vc_false hF rfl ?_
      apply wp_skip
      refine hK8 _ _ ?_; clear  hK8 K8
      apply wp_seq_k; intro K10 hK10
      apply wp_seq_k; intro K11 hK11
      refine wp_region_lit ?_
      refine vc_y hF rfl rfl (by decide) _ (y_move rfl rfl) (fun a hF => ?_)
      refine vc_y hF rfl rfl (by decide) _ (y_cmp rfl rfl rfl rfl (neq_f (by omega))) (fun a hF => ?_)
      refine vc_nil ?_
      refine hK11 _ _ ?_; clear  hK11 K11
      refine vc_false hF rfl ?_
      apply wp_skip
      refine hK10 _ _ ?_; clear  hK10 K10
      apply wp_seq_k; intro K12 hK12
      refine wp_region_lit ?_
      refine vc_op rfl (fun K hK => hs_alloc hF rfl (by decide) rfl hA21 (zr45_s17) (fun b22 w23 a hb22 hF hA24 => hK _ _ ?_))
      clear hK K
      replace hA24 : Hp w0 ([row b22 45 [.pointer none, .slice none 0 0]] :: [row b17 45 [top2, sl2]] :: X2 :: X :: [row b5 45 [top1, sl1]] :: X1 :: []) w23 := hA24
      refine vc_nil ?_
      refine hK12 _ _ ?_; clear  hK12 K12
      apply wp_seq_k; intro K13 hK13
      apply wp_seq_k; intro K14 hK14
      refine wp_region_lit ?_
      refine vc_y hF rfl rfl (by decide) _ (y_assign rfl rfl) (fun a hF => ?_)
      refine vc_nil ?_
      refine hK14 _ _ ?_; clear  hK14 K14
      apply wp_block
      have hA25 : Hp w0 ([row b22 45 [.pointer none, .slice none 0 0]] :: X :: [row b5 45 [top1, sl1]] :: X1 :: [row b17 45 [top2, sl2]] :: X2 :: []) w23 := Hp.ord [[row b22 45 [.pointer none, .slice none 0 0]], [row b17 45 [top2, sl2]], X2, X, [row b5 45 [top1, sl1]], X1] [] [0, 3, 4, 5, 1, 2] hA24 rfl
      have hA26 : Hp w0 ([row b22 45 [.pointer none, .slice none 0 0]] :: [] :: X :: [row b5 45 [top1, sl1]] :: X1 :: [row b17 45 [top2, sl2]] :: X2 :: []) w23 := hA25
      refine vc_loop (G := Nat × List Itm) (fun gh a x => ∃ (top : Value) (sl : Value) (XC : Seg), gh.1 ≤ l0.length ∧ Put2 mm gh.2 mm.length ∧ TV w0 [XC] gh.2 top sl ∧ gh.2.length ≤ gh.1 ∧ Fr 201 [(15, .int .i64 (gh.1 : Int)), (0, .int .i64 width), (1, .slice A l0.length c), (2, .slice TA ts.length tc), (7, .pointer (some ⟨b5, 0, none⟩)), (9, .slice LA l0.length lc), (12, .pointer (some ⟨b17, 0, none⟩)), (14, .pointer (some ⟨b22, 0, none⟩))] a ∧ Hp w0 ([row b22 45 [top, sl]] :: XC :: X :: [row b5 45 [top1, sl1]] :: X1 :: [row b17 45 [top2, sl2]] :: X2 :: []) x) (fun gh => l0.length - gh.1) (0, []) (⟨_, _, _, Nat.zero_le _, Put2.start mm, (.inl ⟨rfl, rfl, rfl⟩), (Nat.le_refl _), hF.keep [15, 0, 1, 2, 7, 9, 12, 14] rfl, hA26⟩) ?_
      clear hF
      rintro gh a w28 ⟨top, sl, XC, hi, hP, hTVc, hLc, hF, hA27⟩
      obtain ⟨i, Lc⟩ := gh
      simp only at hi hP hTVc hLc hF
      apply wp_seq_k; intro K15 hK15
      apply wp_seq_k; intro K16 hK16
      refine wp_region_lit ?_
      refine vc_y hF rfl rfl (by decide) _ (y_move rfl rfl) (fun a hF => ?_)
      refine vc_y hF rfl rfl (by decide) _ (y_move rfl rfl) (fun a hF => ?_)
      refine vc_y hF rfl rfl (by decide) _ (y_lenSl rfl Tryd.underlying55 rfl rfl) (fun a hF => ?_)
      refine vc_y hF rfl rfl (by decide) _ (y_cmp rfl rfl rfl rfl rfl) (fun a hF => ?_)
      refine vc_nil ?_
      refine hK16 _ _ ?_; clear  hK16 K16
      by_cases hlt : i < l0.length
      · refine vc_trueB hF rfl (lss_t (by omega)) ?_
        obtain ⟨xi, hxi⟩ : ∃ x, mm[i]? = some x := ⟨_, List.getElem?_eq_getElem (by omega)⟩
        have hxK := hIm xi (List.mem_of_getElem? hxi)
        have hlt2 : i < mm.length := by omega
        have hcl5 := cel_len65 hIm
        obtain ⟨b, q, hAd, hc⟩ := hRm.ne (i := i * 65) (by have := (rs_at hIm hxi).2; omega)
        apply wp_skip
        refine hK15 _ _ ?_; clear  hK15 K15
        apply wp_seq_k; intro K17 hK17
        apply wp_block
        apply wp_seq_k; intro K18 hK18
        have hM : ∀ (a : Act) (x : World) (gN : Nat) (topn sln : Value) (XN : Seg), TV w0 [XN, XC] (insL (earlyI xi i) Lc) topn sln → Fr 201 [(16, .pointer (some ⟨gN, 0, none⟩)), (17, .int .i64 0), (0, .int .i64 width), (1, .slice A l0.length c), (2, .slice TA ts.length tc), (7, .pointer (some ⟨b5, 0, none⟩)), (9, .slice LA l0.length lc), (12, .pointer (some ⟨b17, 0, none⟩)), (14, .pointer (some ⟨b22, 0, none⟩)), (15, .int .i64 (i : Int))] a → Hp w0 ([row gN 45 [topn, sln]] :: XN :: [row b22 45 [top, sl]] :: XC :: X :: [row b5 45 [top1, sl1]] :: X1 :: [row b17 45 [top2, sl2]] :: X2 :: []) x → K18 a x := by
          clear hF
          intro a x gN topn sln XN hTVn hF hAm
          have tvn := tv_one hTVn
          refine hK18 _ _ ?_; clear  hK18 K18
          apply wp_seq_k; intro K19 hK19
          apply wp_seq_k; intro K20 hK20
          refine wp_region_lit ?_
          refine vc_y hF rfl rfl (by decide) _ (y_move rfl rfl) (fun a hF => ?_)
          refine vc_y hF rfl rfl (by decide) _ (y_cmp rfl rfl rfl rfl (neq_f (by omega))) (fun a hF => ?_)
          refine vc_nil ?_
          refine hK20 _ _ ?_; clear  hK20 K20
          refine vc_false hF rfl ?_
          apply wp_skip
          refine hK19 _ _ ?_; clear  hK19 K19
          refine wp_region_lit ?_
          refine vc_y hF rfl rfl (by decide) _ (y_ldRow (new := [topn, sln]) rfl hAm.q rfl 0 rfl rw45_s17 (Nat.le_of_ble_eq_true rfl) rfl) (fun a hF => ?_)
          refine vc_op rfl (fun K hK => hs_storeAll (new := [topn, sln]) hF rfl rfl hAm rfl rfl 2 rfl rfl tvn sz45_s17 (fun w29 hA30 => hK _ _ ?_))
          clear hK K
          replace hA30 : Hp w0 ([row gN 45 [topn, sln]] :: XN :: [row b22 45 [topn, sln]] :: XC :: X :: [row b5 45 [top1, sl1]] :: X1 :: [row b17 45 [top2, sl2]] :: X2 :: []) w29 := hA30
          refine vc_nil ?_
          refine hK17 _ _ ?_; clear  hK17 K17
          refine wp_region_lit ?_
          refine vc_y hF rfl rfl (by decide) _ (y_move rfl rfl) (fun a hF => ?_)
          refine vc_y hF rfl rfl (by decide) _ (y_add rfl rfl rfl (IntWalk.i64_in _ (by omega))) (fun a hF => ?_)
          refine vc_y hF rfl rfl (by decide) _ (y_assign rfl rfl) (fun a hF => ?_)
          refine vc_nil ?_
          have hA31 : Hp w0 ([row b22 45 [topn, sln]] :: XN :: XC :: X :: [row b5 45 [top1, sl1]] :: X1 :: [row b17 45 [top2, sl2]] :: X2 :: []) w29 := Hp.sel [[row gN 45 [topn, sln]], XN, [row b22 45 [topn, sln]], XC, X, [row b5 45 [top1, sl1]], X1, [row b17 45 [top2, sl2]], X2] [] [2, 1, 3, 4, 5, 6, 7, 8] [0] hA30 rfl
          have hA32 : Hp w0 ([row b22 45 [topn, sln]] :: (XN ++ XC) :: X :: [row b5 45 [top1, sl1]] :: X1 :: [row b17 45 [top2, sl2]] :: X2 :: []) w29 := Hp.cast hA31 (by simp [List.flatten_cons, List.append_assoc])
          replace hTVn := tv_join hTVn
          exact ⟨(i + 1, insL (earlyI xi i) Lc), (by show l0.length - (i + 1) < l0.length - i; omega), _, _, _, (by show i + 1 ≤ _; omega), hP.early hIm hxi i, hTVn, insL_lenle hLc, hF.keep [15, 0, 1, 2, 7, 9, 12, 14] rfl, hA32⟩
        refine wp_region_fork 16 [10,14,15,16] (.op 0 (.op 1 (.op 2 (.op 3 (.op 4 (.op 5 (.op 6 (.op 7 (.op 8 (.op 9 (.fork 10 14 (.op 11 (.op 12 (.op 13 (.op 14 (.op 15 (.op 16 .done)))))) (.op 10 (.op 11 (.op 12 (.op 13 (.op 15 (.op 16 .done))))))))))))))))) (fun x => Hq w0 ([row b22 45 [top, sl]] :: XC :: X :: [row b5 45 [top1, sl1]] :: X1 :: [row b17 45 [top2, sl2]] :: X2 :: []) x) (by kernel_rfl) (by kernel_rfl) (Hq.drew (Hp.qp [[row b22 45 [top, sl]], XC, X, [row b5 45 [top1, sl1]], X1, [row b17 45 [top2, sl2]], X2] [] [0, 1, 2, 3, 4, 5, 6] hA27)) ?_
        have hA33 := Hl.drew hA27
        refine vt_y hF rfl rfl rfl rfl (by decide) _ (fun x hx => y_ldRow (new := [top, sl]) rfl hx rfl 0 rfl rw45_s17 (Nat.le_of_ble_eq_true rfl) rfl) (fun a hF => ?_)
        refine vt_y hF rfl rfl rfl rfl (by decide) _ (fun x hx => y_move rfl rfl) (fun a hF => ?_)
        refine vt_y hF rfl rfl rfl rfl (by decide) _ (fun x hx => y_move rfl rfl) (fun a hF => ?_)
        refine vt_y hF rfl rfl rfl rfl (by decide) _ (fun x hx => y_ixSl rfl Tryd.underlying55 sz54_s17 (by exact congrArg (fun A => some (Value.slice A l0.length lc)) hAd) rfl i rfl (by omega) rfl) (fun a hF => ?_)
        refine vt_y hF rfl rfl rfl rfl (by decide) _ (fun x hx => y_field rfl Tryd.underlying54 rfl sz23_s17 (by decide) rfl (rfl : (⟨_, _ + _, none⟩ : Addr) = ⟨b, q + i * 65 + 0, none⟩)) (fun a hF => ?_)
        refine vt_y hF rfl rfl rfl rfl (by decide) _ (fun x hx => y_ldRowC rfl (Hq.sub hx (sub1 (List.mem_cons_of_mem _ (List.mem_cons_of_mem _ ((List.mem_cons_self ..)))))) rfl hc (i * 65) (by have := (rs_at hIm hxi).2; omega) rfl (rs_key hIm hxi) rw23_s17) (fun a hF => ?_)
        refine vt_y hF rfl rfl rfl rfl (by decide) _ (fun x hx => y_move rfl rfl) (fun a hF => ?_)
        refine vt_y hF rfl rfl rfl rfl (by decide) _ (fun x hx => y_conv rfl Tryd.underlying3 Tryd.underlying5 rfl (u8_wrap i)) (fun a hF => ?_)
        refine vt_y hF rfl rfl rfl rfl (by decide) _ (fun x hx => y_build (qs := #[(0, .int .u8 ((UInt8.ofNat i).toNat : Int))]) rfl rfl (by exact ro_dig _)) (fun a hF => ?_)
        refine vt_y hF rfl rfl rfl rfl (by decide) _ (fun x hx => y_build (qs := #[(0, .int .i64 1099511627776), (1, .agg (dc (UInt8.ofNat i :: List.replicate 31 0)).toArray)]) rfl rfl (by exact ro_ent _ (by simp))) (fun a hF => ?_)
        refine vt_fork rfl rfl rfl rfl (fun K hK => ?_) (fun K hK => ?_)
        · refine ws_call hF rfl (by decide) cl22_s17 rfl rfl ?_
          with_reducible refine ((show Calls Tryd.prog 22 #[.agg ([top, sl] : List Value).toArray, .agg (dc xi.k).toArray, .agg (.int .i64 1099511627776 :: dc (UInt8.ofNat i :: List.replicate 31 0)).toArray] _ _ from rt_tput w0 _ ([row b22 45 [top, sl]] :: XC :: X :: [row b5 45 [top1, sl1]] :: X1 :: [row b17 45 [top2, sl2]] :: X2 :: []) [XC] (sub1 (List.mem_cons_of_mem _ ((List.mem_cons_self ..)))) Lc top sl hTVc (by omega) (earlyI xi i) (earlyI_ok hxK i) (u8_key hxK i) hT hA33) ).mono ?_
          rintro e' w34 ⟨topn, sln, XN, rfl, hTVn, hA35⟩
          refine ⟨_, rfl, fun a hF => hK _ _ ?_ ?_⟩
          · exact Hp.qp [XN, [row b22 45 [top, sl]], XC, X, [row b5 45 [top1, sl1]], X1, [row b17 45 [top2, sl2]], X2] [] [1, 2, 3, 4, 5, 6, 7] hA35
          clear hK K
          replace hA35 : Hp w0 (XN :: [row b22 45 [top, sl]] :: XC :: X :: [row b5 45 [top1, sl1]] :: X1 :: [row b17 45 [top2, sl2]] :: X2 :: []) w34 := hA35
          have tvn := tv_one hTVn
          refine vt_y hF rfl rfl rfl rfl (by decide) _ (fun x hx => y_move rfl rfl) (fun a hF => ?_)
          refine vt_y hF rfl rfl rfl rfl (by decide) _ (fun x hx => y_extract (v := .agg ([topn, sln]).toArray) rfl rfl rfl) (fun a hF => ?_)
          refine vt_y hF rfl rfl rfl rfl (by decide) _ (fun x hx => y_extract (v := .int .i64 0) rfl rfl rfl) (fun a hF => ?_)
          refine vt_l rfl rfl rfl (fun K hK => hs_alloc hF rfl (by decide) rfl hA35 (zr45_s17) (fun b36 w37 a hb36 hF hA38 => hK _ _ (fun _ => ?_) ?_))
          · exact Hp.qp [[row b36 45 [.pointer none, .slice none 0 0]], XN, [row b22 45 [top, sl]], XC, X, [row b5 45 [top1, sl1]], X1, [row b17 45 [top2, sl2]], X2] [] [2, 3, 4, 5, 6, 7, 8] hA38
          clear hK K
          replace hA38 : Hp w0 ([row b36 45 [.pointer none, .slice none 0 0]] :: XN :: [row b22 45 [top, sl]] :: XC :: X :: [row b5 45 [top1, sl1]] :: X1 :: [row b17 45 [top2, sl2]] :: X2 :: []) w37 := hA38
          refine vt_l rfl rfl rfl (fun K hK => hs_storeAll (new := [topn, sln]) hF rfl rfl hA38 rfl rfl 0 rfl rfl tvn sz45_s17 (fun w39 hA40 => hK _ _ (fun _ => ?_) ?_))
          · exact Hp.qp [[row b36 45 [topn, sln]], XN, [row b22 45 [top, sl]], XC, X, [row b5 45 [top1, sl1]], X1, [row b17 45 [top2, sl2]], X2] [] [2, 3, 4, 5, 6, 7, 8] hA40
          clear hK K
          replace hA40 : Hp w0 ([row b36 45 [topn, sln]] :: XN :: [row b22 45 [top, sl]] :: XC :: X :: [row b5 45 [top1, sl1]] :: X1 :: [row b17 45 [top2, sl2]] :: X2 :: []) w39 := hA40
          refine vt_ly hF rfl rfl rfl rfl (by decide) _ (y_assign rfl rfl) (fun h => absurd h (by decide)) (fun a hF => ?_)
          refine pt_end ?_
          exact hM _ _ b36 topn sln XN hTVn (hF.keep [16, 17, 0, 1, 2, 7, 9, 12, 14, 15] rfl) hA40
        · refine hs_alloc hF rfl (by decide) rfl hA33 (zr45_s17) (fun b41 w42 a hb41 hF hA43 => hK _ _ ?_ ?_)
          · exact Hp.qp [[row b41 45 [.pointer none, .slice none 0 0]], [row b22 45 [top, sl]], XC, X, [row b5 45 [top1, sl1]], X1, [row b17 45 [top2, sl2]], X2] [] [1, 2, 3, 4, 5, 6, 7] hA43
          clear hK K
          replace hA43 : Hp w0 ([row b41 45 [.pointer none, .slice none 0 0]] :: [row b22 45 [top, sl]] :: XC :: X :: [row b5 45 [top1, sl1]] :: X1 :: [row b17 45 [top2, sl2]] :: X2 :: []) w42 := hA43
          refine vt_l rfl rfl rfl (fun K hK => ws_call hF rfl (by decide) cl22_s17 rfl rfl ?_)
          with_reducible refine ((show Calls Tryd.prog 22 #[.agg ([top, sl] : List Value).toArray, .agg (dc xi.k).toArray, .agg (.int .i64 1099511627776 :: dc (UInt8.ofNat i :: List.replicate 31 0)).toArray] _ _ from rt_tput w0 _ ([row b41 45 [.pointer none, .slice none 0 0]] :: [row b22 45 [top, sl]] :: XC :: X :: [row b5 45 [top1, sl1]] :: X1 :: [row b17 45 [top2, sl2]] :: X2 :: []) [XC] (sub1 (List.mem_cons_of_mem _ (List.mem_cons_of_mem _ ((List.mem_cons_self ..))))) Lc top sl hTVc (by omega) (earlyI xi i) (earlyI_ok hxK i) (u8_key hxK i) hT hA43) ).mono ?_
          rintro e' w44 ⟨topn, sln, XN, rfl, hTVn, hA45⟩
          refine ⟨_, rfl, fun a hF => hK _ _ (fun _ => ?_) ?_⟩
          · exact Hp.qp [XN, [row b41 45 [.pointer none, .slice none 0 0]], [row b22 45 [top, sl]], XC, X, [row b5 45 [top1, sl1]], X1, [row b17 45 [top2, sl2]], X2] [] [2, 3, 4, 5, 6, 7, 8] hA45
          clear hK K
          replace hA45 : Hp w0 (XN :: [row b41 45 [.pointer none, .slice none 0 0]] :: [row b22 45 [top, sl]] :: XC :: X :: [row b5 45 [top1, sl1]] :: X1 :: [row b17 45 [top2, sl2]] :: X2 :: []) w44 := hA45
          have tvn := tv_one hTVn
          refine vt_y hF rfl rfl rfl rfl (by decide) _ (fun x hx => y_move rfl rfl) (fun a hF => ?_)
          refine vt_y hF rfl rfl rfl rfl (by decide) _ (fun x hx => y_extract (v := .agg ([topn, sln]).toArray) rfl rfl rfl) (fun a hF => ?_)
          refine vt_y hF rfl rfl rfl rfl (by decide) _ (fun x hx => y_extract (v := .int .i64 0) rfl rfl rfl) (fun a hF => ?_)
          refine vt_l rfl rfl rfl (fun K hK => hs_storeAll (new := [topn, sln]) hF rfl rfl hA45 rfl rfl 1 rfl rfl tvn sz45_s17 (fun w46 hA47 => hK _ _ (fun _ => ?_) ?_))
          · exact Hp.qp [XN, [row b41 45 [topn, sln]], [row b22 45 [top, sl]], XC, X, [row b5 45 [top1, sl1]], X1, [row b17 45 [top2, sl2]], X2] [] [2, 3, 4, 5, 6, 7, 8] hA47
          clear hK K
          replace hA47 : Hp w0 (XN :: [row b41 45 [topn, sln]] :: [row b22 45 [top, sl]] :: XC :: X :: [row b5 45 [top1, sl1]] :: X1 :: [row b17 45 [top2, sl2]] :: X2 :: []) w46 := hA47
          refine vt_ly hF rfl rfl rfl rfl (by decide) _ (y_assign rfl rfl) (fun h => absurd h (by decide)) (fun a hF => ?_)
          refine pt_end ?_
          have hA48 : Hp w0 ([row b41 45 [topn, sln]] :: XN :: [row b22 45 [top, sl]] :: XC :: X :: [row b5 45 [top1, sl1]] :: X1 :: [row b17 45 [top2, sl2]] :: X2 :: []) w46 := Hp.ord [XN, [row b41 45 [topn, sln]], [row b22 45 [top, sl]], XC, X, [row b5 45 [top1, sl1]], X1, [row b17 45 [top2, sl2]], X2] [] [1, 0, 2, 3, 4, 5, 6, 7, 8] hA47 rfl
          exact hM _ _ b41 topn sln XN hTVn (hF.keep [16, 17, 0, 1, 2, 7, 9, 12, 14, 15] rfl) hA48
      · refine vc_falseB hF rfl (lss_f (by omega)) ?_
        apply wp_exit
        refine hK13 _ _ ?_; clear hK15 K15 hK13 K13
        apply wp_seq_k; intro K21 hK21
        apply wp_seq_k; intro K22 hK22
        refine wp_region_lit ?_
        refine vc_y hF rfl rfl (by decide) _ (y_move rfl rfl) (fun a hF => ?_)
        refine vc_y hF rfl rfl (by decide) _ (y_lenSl rfl Tryd.underlying55 rfl rfl) (fun a hF => ?_)
        refine vc_y hF rfl rfl (by decide) _ (y_sub rfl rfl rfl (IntWalk.i64_in _ (by omega))) (fun a hF => ?_)
        refine vc_y hF rfl rfl (by decide) _ (y_assign rfl rfl) (fun a hF => ?_)
        refine vc_nil ?_
        refine hK22 _ _ ?_; clear  hK22 K22
        apply wp_block
        refine vc_loop (G := Nat × List Itm) (fun gh a x => ∃ (top : Value) (sl : Value) (XC : Seg), gh.1 ≤ l0.length ∧ Put2 mm gh.2 gh.1 ∧ TV w0 [XC] gh.2 top sl ∧ gh.2.length + gh.1 ≤ 48 ∧ Fr 201 [(18, .int .i64 ((gh.1 : Int) - 1)), (0, .int .i64 width), (1, .slice A l0.length c), (2, .slice TA ts.length tc), (7, .pointer (some ⟨b5, 0, none⟩)), (9, .slice LA l0.length lc), (12, .pointer (some ⟨b17, 0, none⟩)), (14, .pointer (some ⟨b22, 0, none⟩))] a ∧ Hp w0 ([row b22 45 [top, sl]] :: XC :: X :: [row b5 45 [top1, sl1]] :: X1 :: [row b17 45 [top2, sl2]] :: X2 :: []) x) (fun gh => gh.1) (l0.length, Lc) (⟨_, _, _, Nat.le_refl _, (by rw [← hml]; exact hP), hTVc, (by show Lc.length + l0.length ≤ 48; omega), hF.keep [18, 0, 1, 2, 7, 9, 12, 14] rfl, hA27⟩) ?_
        clear hF
        rintro gh a w50 ⟨top, sl, XC, hi2, hP2, hTVc2, hLc2, hF, hA49⟩
        clear hP hTVc hLc
        obtain ⟨t, Lc⟩ := gh
        simp only at hi2 hP2 hTVc2 hLc2 hF
        have hTVc := hTVc2
        by_cases hge : 0 < t
        · apply wp_seq_k; intro K23 hK23
          apply wp_seq_k; intro K24 hK24
          refine wp_region_lit ?_
          refine vc_y hF rfl rfl (by decide) _ (y_move rfl rfl) (fun a hF => ?_)
          refine vc_y hF rfl rfl (by decide) _ (y_cmp rfl rfl rfl rfl (geq_t (by omega))) (fun a hF => ?_)
          refine vc_nil ?_
          refine hK24 _ _ ?_; clear  hK24 K24
          refine vc_true hF rfl ?_
          obtain ⟨i, rfl⟩ : ∃ i, t = i + 1 := ⟨t - 1, by omega⟩
          obtain ⟨xi, hxi⟩ : ∃ x, mm[i]? = some x := ⟨_, List.getElem?_eq_getElem (by omega)⟩
          have hxK := hIm xi (List.mem_of_getElem? hxi)
          have hxc := hct xi (List.mem_of_getElem? hxi)
          have hlt2 : i < mm.length := by omega
          have hcl5 := cel_len65 hIm
          rw [show (((i + 1 : Nat) : Int) - 1) = (i : Int) by omega] at hF
          obtain ⟨b, q, hAd, hc⟩ := hRm.ne (i := i * 65) (by have := (rs_at hIm hxi).2; omega)
          apply wp_skip
          refine hK23 _ _ ?_; clear  hK23 K23
          apply wp_seq_k; intro K25 hK25
          apply wp_block
          apply wp_seq_k; intro K26 hK26
          have hM : ∀ (a : Act) (x : World) (gN : Nat) (topn sln : Value) (XN : Seg), TV w0 [XN, XC] (insL (xi) Lc) topn sln → Fr 201 [(19, .pointer (some ⟨gN, 0, none⟩)), (20, .int .i64 0), (0, .int .i64 width), (1, .slice A l0.length c), (2, .slice TA ts.length tc), (7, .pointer (some ⟨b5, 0, none⟩)), (9, .slice LA l0.length lc), (12, .pointer (some ⟨b17, 0, none⟩)), (14, .pointer (some ⟨b22, 0, none⟩)), (18, .int .i64 (i : Int))] a → Hp w0 ([row gN 45 [topn, sln]] :: XN :: [row b22 45 [top, sl]] :: XC :: X :: [row b5 45 [top1, sl1]] :: X1 :: [row b17 45 [top2, sl2]] :: X2 :: []) x → K26 a x := by
            clear hF
            intro a x gN topn sln XN hTVn hF hAm
            have tvn := tv_one hTVn
            refine hK26 _ _ ?_; clear  hK26 K26
            apply wp_seq_k; intro K27 hK27
            apply wp_seq_k; intro K28 hK28
            refine wp_region_lit ?_
            refine vc_y hF rfl rfl (by decide) _ (y_move rfl rfl) (fun a hF => ?_)
            refine vc_y hF rfl rfl (by decide) _ (y_cmp rfl rfl rfl rfl (neq_f (by omega))) (fun a hF => ?_)
            refine vc_nil ?_
            refine hK28 _ _ ?_; clear  hK28 K28
            refine vc_false hF rfl ?_
            apply wp_skip
            refine hK27 _ _ ?_; clear  hK27 K27
            refine wp_region_lit ?_
            refine vc_y hF rfl rfl (by decide) _ (y_ldRow (new := [topn, sln]) rfl hAm.q rfl 0 rfl rw45_s17 (Nat.le_of_ble_eq_true rfl) rfl) (fun a hF => ?_)
            refine vc_op rfl (fun K hK => hs_storeAll (new := [topn, sln]) hF rfl rfl hAm rfl rfl 2 rfl rfl tvn sz45_s17 (fun w51 hA52 => hK _ _ ?_))
            clear hK K
            replace hA52 : Hp w0 ([row gN 45 [topn, sln]] :: XN :: [row b22 45 [topn, sln]] :: XC :: X :: [row b5 45 [top1, sl1]] :: X1 :: [row b17 45 [top2, sl2]] :: X2 :: []) w51 := hA52
            refine vc_nil ?_
            refine hK25 _ _ ?_; clear  hK25 K25
            refine wp_region_lit ?_
            refine vc_y hF rfl rfl (by decide) _ (y_move rfl rfl) (fun a hF => ?_)
            refine vc_y hF rfl rfl (by decide) _ (y_sub rfl rfl rfl (IntWalk.i64_in _ (by omega))) (fun a hF => ?_)
            refine vc_y hF rfl rfl (by decide) _ (y_assign rfl rfl) (fun a hF => ?_)
            refine vc_nil ?_
            have hA53 : Hp w0 ([row b22 45 [topn, sln]] :: XN :: XC :: X :: [row b5 45 [top1, sl1]] :: X1 :: [row b17 45 [top2, sl2]] :: X2 :: []) w51 := Hp.sel [[row gN 45 [topn, sln]], XN, [row b22 45 [topn, sln]], XC, X, [row b5 45 [top1, sl1]], X1, [row b17 45 [top2, sl2]], X2] [] [2, 1, 3, 4, 5, 6, 7, 8] [0] hA52 rfl
            have hA54 : Hp w0 ([row b22 45 [topn, sln]] :: (XN ++ XC) :: X :: [row b5 45 [top1, sl1]] :: X1 :: [row b17 45 [top2, sl2]] :: X2 :: []) w51 := Hp.cast hA53 (by simp [List.flatten_cons, List.append_assoc])
            replace hTVn := tv_join hTVn
            exact ⟨(i, insL xi Lc), (by show i < i + 1; omega), _, _, _, (by show i ≤ _; omega), hP2.back hIm hnk hxi, hTVn, (by show (insL xi Lc).length + i ≤ 48; have := insL_lenle (i := xi) (Nat.le_refl Lc.length); omega), hF.keep [18, 0, 1, 2, 7, 9, 12, 14] rfl, hA54⟩
          refine wp_region_fork 17 [11,15,16,17] (.op 0 (.op 1 (.op 2 (.op 3 (.op 4 (.op 5 (.op 6 (.op 7 (.op 8 (.op 9 (.op 10 (.fork 11 15 (.op 12 (.op 13 (.op 14 (.op 15 (.op 16 (.op 17 .done)))))) (.op 11 (.op 12 (.op 13 (.op 14 (.op 16 (.op 17 .done)))))))))))))))))) (fun x => Hq w0 ([row b22 45 [top, sl]] :: XC :: X :: [row b5 45 [top1, sl1]] :: X1 :: [row b17 45 [top2, sl2]] :: X2 :: []) x) (by kernel_rfl) (by kernel_rfl) (Hq.drew (Hp.qp [[row b22 45 [top, sl]], XC, X, [row b5 45 [top1, sl1]], X1, [row b17 45 [top2, sl2]], X2] [] [0, 1, 2, 3, 4, 5, 6] hA49)) ?_
          have hA55 := Hl.drew hA49
          refine vt_y hF rfl rfl rfl rfl (by decide) _ (fun x hx => y_ldRow (new := [top, sl]) rfl hx rfl 0 rfl rw45_s17 (Nat.le_of_ble_eq_true rfl) rfl) (fun a hF => ?_)
          refine vt_y hF rfl rfl rfl rfl (by decide) _ (fun x hx => y_move rfl rfl) (fun a hF => ?_)
          refine vt_y hF rfl rfl rfl rfl (by decide) _ (fun x hx => y_move rfl rfl) (fun a hF => ?_)
          refine vt_y hF rfl rfl rfl rfl (by decide) _ (fun x hx => y_ixSl rfl Tryd.underlying55 sz54_s17 (by exact congrArg (fun A => some (Value.slice A l0.length lc)) hAd) rfl i rfl (by omega) rfl) (fun a hF => ?_)
          refine vt_y hF rfl rfl rfl rfl (by decide) _ (fun x hx => y_field rfl Tryd.underlying54 rfl sz23_s17 (by decide) rfl (rfl : (⟨_, _ + _, none⟩ : Addr) = ⟨b, q + i * 65 + 0, none⟩)) (fun a hF => ?_)
          refine vt_y hF rfl rfl rfl rfl (by decide) _ (fun x hx => y_ldRowC rfl (Hq.sub hx (sub1 (List.mem_cons_of_mem _ (List.mem_cons_of_mem _ ((List.mem_cons_self ..)))))) rfl hc (i * 65) (by have := (rs_at hIm hxi).2; omega) rfl (rs_key hIm hxi) rw23_s17) (fun a hF => ?_)
          refine vt_y hF rfl rfl rfl rfl (by decide) _ (fun x hx => y_move rfl rfl) (fun a hF => ?_)
          refine vt_y hF rfl rfl rfl rfl (by decide) _ (fun x hx => y_move rfl rfl) (fun a hF => ?_)
          refine vt_y hF rfl rfl rfl rfl (by decide) _ (fun x hx => y_ixSl rfl Tryd.underlying55 sz54_s17 (by exact congrArg (fun A => some (Value.slice A l0.length lc)) hAd) rfl i rfl (by omega) rfl) (fun a hF => ?_)
          refine vt_y hF rfl rfl rfl rfl (by decide) _ (fun x hx => y_field rfl Tryd.underlying54 rfl sz25_s17 (by decide) rfl (rfl : (⟨_, _ + _, none⟩ : Addr) = ⟨b, q + i * 65 + 32, none⟩)) (fun a hF => ?_)
          refine vt_y hF rfl rfl rfl rfl (by decide) _ (fun x hx => y_ldRowC rfl (Hq.sub hx (sub1 (List.mem_cons_of_mem _ (List.mem_cons_of_mem _ ((List.mem_cons_self ..)))))) rfl hc (i * 65 + 32) (by have := (rs_at hIm hxi).2; omega) (by omega) (rs_ent hIm hxi) rw25_s17) (fun a hF => ?_)
          refine vt_fork rfl rfl rfl rfl (fun K hK => ?_) (fun K hK => ?_)
          · refine ws_call hF rfl (by decide) cl22_s17 rfl rfl ?_
            with_reducible refine ((show Calls Tryd.prog 22 #[.agg ([top, sl] : List Value).toArray, .agg (dc xi.k).toArray, .agg (.int .i64 xi.ct :: dc xi.ch).toArray] _ _ from rt_tput w0 _ ([row b22 45 [top, sl]] :: XC :: X :: [row b5 45 [top1, sl1]] :: X1 :: [row b17 45 [top2, sl2]] :: X2 :: []) [XC] (sub1 (List.mem_cons_of_mem _ ((List.mem_cons_self ..)))) Lc top sl hTVc (by omega) (xi) hxK hxc hT hA55) ).mono ?_
            rintro e' w56 ⟨topn, sln, XN, rfl, hTVn, hA57⟩
            refine ⟨_, rfl, fun a hF => hK _ _ ?_ ?_⟩
            · exact Hp.qp [XN, [row b22 45 [top, sl]], XC, X, [row b5 45 [top1, sl1]], X1, [row b17 45 [top2, sl2]], X2] [] [1, 2, 3, 4, 5, 6, 7] hA57
            clear hK K
            replace hA57 : Hp w0 (XN :: [row b22 45 [top, sl]] :: XC :: X :: [row b5 45 [top1, sl1]] :: X1 :: [row b17 45 [top2, sl2]] :: X2 :: []) w56 := hA57
            have tvn := tv_one hTVn
            refine vt_y hF rfl rfl rfl rfl (by decide) _ (fun x hx => y_move rfl rfl) (fun a hF => ?_)
            refine vt_y hF rfl rfl rfl rfl (by decide) _ (fun x hx => y_extract (v := .agg ([topn, sln]).toArray) rfl rfl rfl) (fun a hF => ?_)
            refine vt_y hF rfl rfl rfl rfl (by decide) _ (fun x hx => y_extract (v := .int .i64 0) rfl rfl rfl) (fun a hF => ?_)
            refine vt_l rfl rfl rfl (fun K hK => hs_alloc hF rfl (by decide) rfl hA57 (zr45_s17) (fun b58 w59 a hb58 hF hA60 => hK _ _ (fun _ => ?_) ?_))
            · exact Hp.qp [[row b58 45 [.pointer none, .slice none 0 0]], XN, [row b22 45 [top, sl]], XC, X, [row b5 45 [top1, sl1]], X1, [row b17 45 [top2, sl2]], X2] [] [2, 3, 4, 5, 6, 7, 8] hA60
            clear hK K
            replace hA60 : Hp w0 ([row b58 45 [.pointer none, .slice none 0 0]] :: XN :: [row b22 45 [top, sl]] :: XC :: X :: [row b5 45 [top1, sl1]] :: X1 :: [row b17 45 [top2, sl2]] :: X2 :: []) w59 := hA60
            refine vt_l rfl rfl rfl (fun K hK => hs_storeAll (new := [topn, sln]) hF rfl rfl hA60 rfl rfl 0 rfl rfl tvn sz45_s17 (fun w61 hA62 => hK _ _ (fun _ => ?_) ?_))
            · exact Hp.qp [[row b58 45 [topn, sln]], XN, [row b22 45 [top, sl]], XC, X, [row b5 45 [top1, sl1]], X1, [row b17 45 [top2, sl2]], X2] [] [2, 3, 4, 5, 6, 7, 8] hA62
            clear hK K
            replace hA62 : Hp w0 ([row b58 45 [topn, sln]] :: XN :: [row b22 45 [top, sl]] :: XC :: X :: [row b5 45 [top1, sl1]] :: X1 :: [row b17 45 [top2, sl2]] :: X2 :: []) w61 := hA62
            refine vt_ly hF rfl rfl rfl rfl (by decide) _ (y_assign rfl rfl) (fun h => absurd h (by decide)) (fun a hF => ?_)
            refine pt_end ?_
            exact hM _ _ b58 topn sln XN hTVn (hF.keep [19, 20, 0, 1, 2, 7, 9, 12, 14, 18] rfl) hA62
          · refine hs_alloc hF rfl (by decide) rfl hA55 (zr45_s17) (fun b63 w64 a hb63 hF hA65 => hK _ _ ?_ ?_)
            · exact Hp.qp [[row b63 45 [.pointer none, .slice none 0 0]], [row b22 45 [top, sl]], XC, X, [row b5 45 [top1, sl1]], X1, [row b17 45 [top2, sl2]], X2] [] [1, 2, 3, 4, 5, 6, 7] hA65
            clear hK K
            replace hA65 : Hp w0 ([row b63 45 [.pointer none, .slice none 0 0]] :: [row b22 45 [top, sl]] :: XC :: X :: [row b5 45 [top1, sl1]] :: X1 :: [row b17 45 [top2, sl2]] :: X2 :: []) w64 := hA65
            refine vt_l rfl rfl rfl (fun K hK => ws_call hF rfl (by decide) cl22_s17 rfl rfl ?_)
            with_reducible refine ((show Calls Tryd.prog 22 #[.agg ([top, sl] : List Value).toArray, .agg (dc xi.k).toArray, .agg (.int .i64 xi.ct :: dc xi.ch).toArray] _ _ from rt_tput w0 _ ([row b63 45 [.pointer none, .slice none 0 0]] :: [row b22 45 [top, sl]] :: XC :: X :: [row b5 45 [top1, sl1]] :: X1 :: [row b17 45 [top2, sl2]] :: X2 :: []) [XC] (sub1 (List.mem_cons_of_mem _ (List.mem_cons_of_mem _ ((List.mem_cons_self ..))))) Lc top sl hTVc (by omega) (xi) hxK hxc hT hA65) ).mono ?_
            rintro e' w66 ⟨topn, sln, XN, rfl, hTVn, hA67⟩
            refine ⟨_, rfl, fun a hF => hK _ _ (fun _ => ?_) ?_⟩
            · exact Hp.qp [XN, [row b63 45 [.pointer none, .slice none 0 0]], [row b22 45 [top, sl]], XC, X, [row b5 45 [top1, sl1]], X1, [row b17 45 [top2, sl2]], X2] [] [2, 3, 4, 5, 6, 7, 8] hA67
            clear hK K
            replace hA67 : Hp w0 (XN :: [row b63 45 [.pointer none, .slice none 0 0]] :: [row b22 45 [top, sl]] :: XC :: X :: [row b5 45 [top1, sl1]] :: X1 :: [row b17 45 [top2, sl2]] :: X2 :: []) w66 := hA67
            have tvn := tv_one hTVn
            refine vt_y hF rfl rfl rfl rfl (by decide) _ (fun x hx => y_move rfl rfl) (fun a hF => ?_)
            refine vt_y hF rfl rfl rfl rfl (by decide) _ (fun x hx => y_extract (v := .agg ([topn, sln]).toArray) rfl rfl rfl) (fun a hF => ?_)
            refine vt_y hF rfl rfl rfl rfl (by decide) _ (fun x hx => y_extract (v := .int .i64 0) rfl rfl rfl) (fun a hF => ?_)
            refine vt_l rfl rfl rfl (fun K hK => hs_storeAll (new := [topn, sln]) hF rfl rfl hA67 rfl rfl 1 rfl rfl tvn sz45_s17 (fun w68 hA69 => hK _ _ (fun _ => ?_) ?_))
            · exact Hp.qp [XN, [row b63 45 [topn, sln]], [row b22 45 [top, sl]], XC, X, [row b5 45 [top1, sl1]], X1, [row b17 45 [top2, sl2]], X2] [] [2, 3, 4, 5, 6, 7, 8] hA69
            clear hK K
            replace hA69 : Hp w0 (XN :: [row b63 45 [topn, sln]] :: [row b22 45 [top, sl]] :: XC :: X :: [row b5 45 [top1, sl1]] :: X1 :: [row b17 45 [top2, sl2]] :: X2 :: []) w68 := hA69
            refine vt_ly hF rfl rfl rfl rfl (by decide) _ (y_assign rfl rfl) (fun h => absurd h (by decide)) (fun a hF => ?_)
            refine pt_end ?_
            have hA70 : Hp w0 ([row b63 45 [topn, sln]] :: XN :: [row b22 45 [top, sl]] :: XC :: X :: [row b5 45 [top1, sl1]] :: X1 :: [row b17 45 [top2, sl2]] :: X2 :: []) w68 := Hp.ord [XN, [row b63 45 [topn, sln]], [row b22 45 [top, sl]], XC, X, [row b5 45 [top1, sl1]], X1, [row b17 45 [top2, sl2]], X2] [] [1, 0, 2, 3, 4, 5, 6, 7, 8] hA69 rfl
            exact hM _ _ b63 topn sln XN hTVn (hF.keep [19, 20, 0, 1, 2, 7, 9, 12, 14, 18] rfl) hA70
        · apply wp_seq_k; intro K29 hK29
          apply wp_seq_k; intro K30 hK30
          refine wp_region_lit ?_
          refine vc_y hF rfl rfl (by decide) _ (y_move rfl rfl) (fun a hF => ?_)
          refine vc_y hF rfl rfl (by decide) _ (y_cmp rfl rfl rfl rfl (geq_f (by omega))) (fun a hF => ?_)
          refine vc_nil ?_
          refine hK30 _ _ ?_; clear  hK30 K30
          refine vc_false hF rfl ?_
          obtain rfl : t = 0 := by omega
          have hLe2 := hP2.done hIm hris hmem'
          rw [hLe2] at hTVc
          apply wp_exit
          refine hK21 _ _ ?_; clear hK29 K29 hK21 K21
          apply wp_seq_k; intro K31 hK31
          apply wp_seq_k; intro K32 hK32
          have hsl : (subE width 256 L).length = 32 := subE_length width 256 L
          refine wp_region_plan 22 [2,5,10,13,18,22] [0,1,3,4,2,5,6,7,8,9,11,12,10,13,14,15,16,17,19,20,18,21,22] (fun x => Hq w0 ([row b22 45 [top, sl]] :: XC :: X :: [row b5 45 [top1, sl1]] :: X1 :: [row b17 45 [top2, sl2]] :: X2 :: []) x) (by kernel_rfl) (by kernel_rfl) (Hq.drew (Hp.qp [[row b22 45 [top, sl]], XC, X, [row b5 45 [top1, sl1]], X1, [row b17 45 [top2, sl2]], X2] [] [0, 1, 2, 3, 4, 5, 6] hA49)) ?_
          have hA71 := Hl.drew hA49
          refine vp_y hF rfl rfl rfl rfl (by decide) _ (fun x hx => y_ldRow (new := [top1, sl1]) rfl hx rfl 3 rfl rw45_s17 (Nat.le_of_ble_eq_true rfl) rfl) (fun a hF => ?_)
          refine vp_y hF rfl rfl rfl rfl (by decide) _ (fun x hx => y_move rfl rfl) (fun a hF => ?_)
          refine vp_y hF rfl rfl rfl rfl (by decide) _ (fun x hx => y_ldRow (new := [top2, sl2]) rfl hx rfl 5 rfl rw45_s17 (Nat.le_of_ble_eq_true rfl) rfl) (fun a hF => ?_)
          refine vp_y hF rfl rfl rfl rfl (by decide) _ (fun x hx => y_move rfl rfl) (fun a hF => ?_)
          refine vp_l rfl rfl rfl (fun K hK => ws_call hF rfl (by decide) cl18_s17 rfl rfl ?_)
          with_reducible refine (rt_root w0 _ ([row b22 45 [top, sl]] :: XC :: X :: [row b5 45 [top1, sl1]] :: X1 :: [row b17 45 [top2, sl2]] :: X2 :: []) [X1] (sub1 (List.mem_cons_of_mem _ (List.mem_cons_of_mem _ (List.mem_cons_of_mem _ (List.mem_cons_of_mem _ ((List.mem_cons_self ..))))))) L top1 sl1 hTV1 width hT hA71 ).mono ?_
          rintro e' w72 ⟨rfl, hA73⟩
          refine ⟨_, rfl, fun a hF => hK _ _ (fun _ => ?_) ?_⟩
          · exact Hp.qp [[row b22 45 [top, sl]], XC, X, [row b5 45 [top1, sl1]], X1, [row b17 45 [top2, sl2]], X2] [] [0, 1, 2, 3, 4, 5, 6] hA73
          clear hK K
          replace hA73 : Hp w0 ([row b22 45 [top, sl]] :: XC :: X :: [row b5 45 [top1, sl1]] :: X1 :: [row b17 45 [top2, sl2]] :: X2 :: []) w72 := hA73
          refine vp_l rfl rfl rfl (fun K hK => ws_call hF rfl (by decide) cl18_s17 rfl rfl ?_)
          with_reducible refine (rt_root w0 _ ([row b22 45 [top, sl]] :: XC :: X :: [row b5 45 [top1, sl1]] :: X1 :: [row b17 45 [top2, sl2]] :: X2 :: []) [X2] (sub1 (List.mem_cons_of_mem _ (List.mem_cons_of_mem _ (List.mem_cons_of_mem _ (List.mem_cons_of_mem _ (List.mem_cons_of_mem _ (List.mem_cons_of_mem _ ((List.mem_cons_self ..))))))))) L top2 sl2 hTV2 width hT hA73 ).mono ?_
          rintro e' w74 ⟨rfl, hA75⟩
          refine ⟨_, rfl, fun a hF => hK _ _ (fun _ => ?_) ?_⟩
          · exact Hp.qp [[row b22 45 [top, sl]], XC, X, [row b5 45 [top1, sl1]], X1, [row b17 45 [top2, sl2]], X2] [] [0, 1, 2, 3, 4, 5, 6] hA75
          clear hK K
          replace hA75 : Hp w0 ([row b22 45 [top, sl]] :: XC :: X :: [row b5 45 [top1, sl1]] :: X1 :: [row b17 45 [top2, sl2]] :: X2 :: []) w74 := hA75
          refine vp_y hF rfl rfl rfl rfl (by decide) _ (fun x hx => y_neB (c := false) rfl Tryd.underlying23 Tryd.underlying5 sz5_s17 (by kernel_rfl) rfl rfl hsl hsl (by simp)) (fun a hF => ?_)
          refine vp_y hF rfl rfl rfl rfl (by decide) _ (fun x hx => y_move rfl rfl) (fun a hF => ?_)
          refine vp_yg hF rfl rfl rfl rfl rfl rfl rfl (by decide) _ (fun x hx => y_ldRow (new := [top1, sl1]) rfl hx rfl 3 rfl rw45_s17 (Nat.le_of_ble_eq_true rfl) rfl) (fun a hF => ?_)
          refine vp_yg hF rfl rfl rfl rfl rfl rfl rfl (by decide) _ (fun x hx => y_move rfl rfl) (fun a hF => ?_)
          refine vp_yg hF rfl rfl rfl rfl rfl rfl rfl (by decide) _ (fun x hx => y_ldRow (new := [top, sl]) rfl hx rfl 0 rfl rw45_s17 (Nat.le_of_ble_eq_true rfl) rfl) (fun a hF => ?_)
          refine vp_yg hF rfl rfl rfl rfl rfl rfl rfl (by decide) _ (fun x hx => y_move rfl rfl) (fun a hF => ?_)
          refine vp_lg hF rfl rfl rfl rfl rfl rfl (fun K hK => ws_call hF rfl (by decide) cl18_s17 rfl rfl ?_)
          with_reducible refine (rt_root w0 _ ([row b22 45 [top, sl]] :: XC :: X :: [row b5 45 [top1, sl1]] :: X1 :: [row b17 45 [top2, sl2]] :: X2 :: []) [X1] (sub1 (List.mem_cons_of_mem _ (List.mem_cons_of_mem _ (List.mem_cons_of_mem _ (List.mem_cons_of_mem _ ((List.mem_cons_self ..))))))) L top1 sl1 hTV1 width hT hA75 ).mono ?_
          rintro e' w76 ⟨rfl, hA77⟩
          refine ⟨_, rfl, fun a hF => hK _ _ (fun _ => ?_) ?_⟩
          · exact Hp.qp [[row b22 45 [top, sl]], XC, X, [row b5 45 [top1, sl1]], X1, [row b17 45 [top2, sl2]], X2] [] [0, 1, 2, 3, 4, 5, 6] hA77
          clear hK K
          replace hA77 : Hp w0 ([row b22 45 [top, sl]] :: XC :: X :: [row b5 45 [top1, sl1]] :: X1 :: [row b17 45 [top2, sl2]] :: X2 :: []) w76 := hA77
          refine vp_lg hF rfl rfl rfl rfl rfl rfl (fun K hK => ws_call hF rfl (by decide) cl18_s17 rfl rfl ?_)
          with_reducible refine (rt_root w0 _ ([row b22 45 [top, sl]] :: XC :: X :: [row b5 45 [top1, sl1]] :: X1 :: [row b17 45 [top2, sl2]] :: X2 :: []) [XC] (sub1 (List.mem_cons_of_mem _ ((List.mem_cons_self ..)))) L top sl hTVc width hT hA77 ).mono ?_
          rintro e' w78 ⟨rfl, hA79⟩
          refine ⟨_, rfl, fun a hF => hK _ _ (fun _ => ?_) ?_⟩
          · exact Hp.qp [[row b22 45 [top, sl]], XC, X, [row b5 45 [top1, sl1]], X1, [row b17 45 [top2, sl2]], X2] [] [0, 1, 2, 3, 4, 5, 6] hA79
          clear hK K
          replace hA79 : Hp w0 ([row b22 45 [top, sl]] :: XC :: X :: [row b5 45 [top1, sl1]] :: X1 :: [row b17 45 [top2, sl2]] :: X2 :: []) w78 := hA79
          refine vp_yg hF rfl rfl rfl rfl rfl rfl rfl (by decide) _ (fun x hx => y_neB (c := false) rfl Tryd.underlying23 Tryd.underlying5 sz5_s17 (by kernel_rfl) rfl rfl hsl hsl (by simp)) (fun a hF => ?_)
          refine vp_y hF rfl rfl rfl rfl (by decide) _ (fun x hx => y_pick rfl rfl rfl) (fun a hF => ?_)
          refine vp_y hF rfl rfl rfl rfl (by decide) _ (fun x hx => y_move rfl rfl) (fun a hF => ?_)
          refine vp_yg hF rfl rfl rfl rfl rfl rfl rfl (by decide) _ (fun x hx => y_ldRow (new := [top, sl]) rfl hx rfl 0 rfl rw45_s17 (Nat.le_of_ble_eq_true rfl) rfl) (fun a hF => ?_)
          refine vp_yg hF rfl rfl rfl rfl rfl rfl rfl (by decide) _ (fun x hx => y_move rfl rfl) (fun a hF => ?_)
          refine vp_yg hF rfl rfl rfl rfl rfl rfl rfl (by decide) _ (fun x hx => y_lenSl rfl Tryd.underlying55 rfl rfl) (fun a hF => ?_)
          refine vp_lg hF rfl rfl rfl rfl rfl rfl (fun K hK => ws_call hF rfl (by decide) cl20_s17 rfl rfl ?_)
          with_reducible refine (rt_len w0 _ ([row b22 45 [top, sl]] :: XC :: X :: [row b5 45 [top1, sl1]] :: X1 :: [row b17 45 [top2, sl2]] :: X2 :: []) [XC] (sub1 (List.mem_cons_of_mem _ ((List.mem_cons_self ..)))) L top sl hTVc hA79 ).mono ?_
          rintro e' w80 ⟨rfl, hA81⟩
          refine ⟨_, rfl, fun a hF => hK _ _ (fun _ => ?_) ?_⟩
          · exact Hp.qp [[row b22 45 [top, sl]], XC, X, [row b5 45 [top1, sl1]], X1, [row b17 45 [top2, sl2]], X2] [] [0, 1, 2, 3, 4, 5, 6] hA81
          clear hK K
          replace hA81 : Hp w0 ([row b22 45 [top, sl]] :: XC :: X :: [row b5 45 [top1, sl1]] :: X1 :: [row b17 45 [top2, sl2]] :: X2 :: []) w80 := hA81
          refine vp_yg hF rfl rfl rfl rfl rfl rfl rfl (by decide) _ (fun x hx => y_cmp rfl rfl rfl rfl (neq_f (by omega))) (fun a hF => ?_)
          refine vp_ly hF rfl rfl rfl rfl (by decide) _ (y_pick rfl rfl rfl) (fun h => absurd h (by decide)) (fun a hF => ?_)
          refine plan_end ?_
          refine hK32 _ _ ?_; clear  hK32 K32
          refine vc_false hF rfl ?_
          apply wp_skip
          refine hK31 _ _ ?_; clear  hK31 K31
          apply wp_seq_k; intro K33 hK33
          refine wp_region_lit ?_
          refine vc_y hF rfl rfl (by decide) _ (y_ldRow (new := [top1, sl1]) rfl hA81.q rfl 3 rfl rw45_s17 (Nat.le_of_ble_eq_true rfl) rfl) (fun a hF => ?_)
          refine vc_y hF rfl rfl (by decide) _ (y_move rfl rfl) (fun a hF => ?_)
          refine vc_y hF rfl rfl (by decide) _ (y_lenSl rfl Tryd.underlying55 rfl rfl) (fun a hF => ?_)
          refine vc_y hF rfl rfl (by decide) _ (y_add rfl rfl rfl (IntWalk.i64_in _ (by omega))) (fun a hF => ?_)
          refine vc_op rfl (fun K hK => ws_call hF rfl (by decide) cl31_s17 rfl rfl ?_)
          with_reducible refine ((show Calls Tryd.prog 31 #[.agg ([top1, sl1] : List Value).toArray, .int .i64 ((l0.length : Int) + 1)] _ _ from (show ((l0.length + 1 : Nat) : Int) = (l0.length : Int) + 1 from rfl) ▸ rt_listed w0 _ ([row b22 45 [top, sl]] :: XC :: X :: [row b5 45 [top1, sl1]] :: X1 :: [row b17 45 [top2, sl2]] :: X2 :: []) [X1] (sub1 (List.mem_cons_of_mem _ (List.mem_cons_of_mem _ (List.mem_cons_of_mem _ (List.mem_cons_of_mem _ ((List.mem_cons_self ..))))))) L top1 sl1 hTV1 (l0.length + 1) (by omega) (by omega) hA81) ).mono ?_
          rintro e' w82 ⟨vl1, V1, rfl, hV1, hA83⟩
          refine ⟨_, rfl, fun a hF => hK _ _ ?_⟩
          clear hK K
          replace hA83 : Hp w0 (V1 :: [row b22 45 [top, sl]] :: XC :: X :: [row b5 45 [top1, sl1]] :: X1 :: [row b17 45 [top2, sl2]] :: X2 :: []) w82 := hA83
          have hFn := hF
          obtain ⟨A1, cv1, rfl, hcv1, hRV1⟩ := hV1.rc (w0 := w0) (R := [V1]) (List.mem_cons_self ..)
          have hF := hFn
          refine vc_y hF rfl rfl (by decide) _ (y_assign rfl rfl) (fun a hF => ?_)
          refine vc_nil ?_
          refine hK33 _ _ ?_; clear  hK33 K33
          apply wp_seq_k; intro K34 hK34
          apply wp_seq_k; intro K35 hK35
          refine wp_region_lit ?_
          refine vc_y hF rfl rfl (by decide) _ (y_move rfl rfl) (fun a hF => ?_)
          refine vc_y hF rfl rfl (by decide) _ (y_ldRow (new := [top2, sl2]) rfl hA83.q rfl 6 rfl rw45_s17 (Nat.le_of_ble_eq_true rfl) rfl) (fun a hF => ?_)
          refine vc_y hF rfl rfl (by decide) _ (y_move rfl rfl) (fun a hF => ?_)
          refine vc_y hF rfl rfl (by decide) _ (y_lenSl rfl Tryd.underlying55 rfl rfl) (fun a hF => ?_)
          refine vc_y hF rfl rfl (by decide) _ (y_add rfl rfl rfl (IntWalk.i64_in _ (by omega))) (fun a hF => ?_)
          refine vc_op rfl (fun K hK => ws_call hF rfl (by decide) cl31_s17 rfl rfl ?_)
          with_reducible refine ((show Calls Tryd.prog 31 #[.agg ([top2, sl2] : List Value).toArray, .int .i64 ((l0.length : Int) + 1)] _ _ from (show ((l0.length + 1 : Nat) : Int) = (l0.length : Int) + 1 from rfl) ▸ rt_listed w0 _ (V1 :: [row b22 45 [top, sl]] :: XC :: X :: [row b5 45 [top1, sl1]] :: X1 :: [row b17 45 [top2, sl2]] :: X2 :: []) [X2] (sub1 (List.mem_cons_of_mem _ (List.mem_cons_of_mem _ (List.mem_cons_of_mem _ (List.mem_cons_of_mem _ (List.mem_cons_of_mem _ (List.mem_cons_of_mem _ (List.mem_cons_of_mem _ ((List.mem_cons_self ..)))))))))) L top2 sl2 hTV2 (l0.length + 1) (by omega) (by omega) hA83) ).mono ?_
          rintro e' w84 ⟨vl2, V2, rfl, hV2, hA85⟩
          refine ⟨_, rfl, fun a hF => hK _ _ ?_⟩
          clear hK K
          replace hA85 : Hp w0 (V2 :: V1 :: [row b22 45 [top, sl]] :: XC :: X :: [row b5 45 [top1, sl1]] :: X1 :: [row b17 45 [top2, sl2]] :: X2 :: []) w84 := hA85
          have hFn := hF
          obtain ⟨A2, cv2, rfl, hcv2, hRV2⟩ := hV2.rc (w0 := w0) (R := [V2]) (List.mem_cons_self ..)
          have hF := hFn
          refine vc_op rfl (fun K hK => ws_call hF rfl (by decide) cl42_s17 rfl rfl ?_)
          with_reducible refine (rt_sameI w0 _ (V2 :: V1 :: [row b22 45 [top, sl]] :: XC :: X :: [row b5 45 [top1, sl1]] :: X1 :: [row b17 45 [top2, sl2]] :: X2 :: []) [V1] [V2] (sub1 (List.mem_cons_of_mem _ ((List.mem_cons_self ..)))) (sub1 ((List.mem_cons_self ..))) A1 A2 L cv1 cv2 (by omega) hLok hRV1 hRV2 hA85 ).mono ?_
          rintro e' w86 ⟨rfl, hA87⟩
          refine ⟨_, rfl, fun a hF => hK _ _ ?_⟩
          clear hK K
          replace hA87 : Hp w0 (V2 :: V1 :: [row b22 45 [top, sl]] :: XC :: X :: [row b5 45 [top1, sl1]] :: X1 :: [row b17 45 [top2, sl2]] :: X2 :: []) w86 := hA87
          refine vc_y hF rfl rfl (by decide) _ (y_not rfl rfl rfl) (fun a hF => ?_)
          refine vc_y hF rfl rfl (by decide) _ (y_move rfl rfl) (fun a hF => ?_)
          refine vc_yg hF rfl rfl rfl rfl rfl (by decide) _ (y_move rfl rfl) (fun a hF => ?_)
          refine vc_yg hF rfl rfl rfl rfl rfl (by decide) _ (y_ldRow (new := [top, sl]) rfl hA87.q rfl 2 rfl rw45_s17 (Nat.le_of_ble_eq_true rfl) rfl) (fun a hF => ?_)
          refine vc_yg hF rfl rfl rfl rfl rfl (by decide) _ (y_move rfl rfl) (fun a hF => ?_)
          refine vc_yg hF rfl rfl rfl rfl rfl (by decide) _ (y_lenSl rfl Tryd.underlying55 rfl rfl) (fun a hF => ?_)
          refine vc_yg hF rfl rfl rfl rfl rfl (by decide) _ (y_add rfl rfl rfl (IntWalk.i64_in _ (by omega))) (fun a hF => ?_)
          refine vc_opg hF rfl rfl rfl rfl (fun K hK => ws_call hF rfl (by decide) cl31_s17 rfl rfl ?_)
          with_reducible refine ((show Calls Tryd.prog 31 #[.agg ([top, sl] : List Value).toArray, .int .i64 ((l0.length : Int) + 1)] _ _ from (show ((l0.length + 1 : Nat) : Int) = (l0.length : Int) + 1 from rfl) ▸ rt_listed w0 _ (V2 :: V1 :: [row b22 45 [top, sl]] :: XC :: X :: [row b5 45 [top1, sl1]] :: X1 :: [row b17 45 [top2, sl2]] :: X2 :: []) [XC] (sub1 (List.mem_cons_of_mem _ (List.mem_cons_of_mem _ (List.mem_cons_of_mem _ ((List.mem_cons_self ..)))))) L top sl hTVc (l0.length + 1) (by omega) (by omega) hA87) ).mono ?_
          rintro e' w88 ⟨vl3, V3, rfl, hV3, hA89⟩
          refine ⟨_, rfl, fun a hF => hK _ _ ?_⟩
          clear hK K
          replace hA89 : Hp w0 (V3 :: V2 :: V1 :: [row b22 45 [top, sl]] :: XC :: X :: [row b5 45 [top1, sl1]] :: X1 :: [row b17 45 [top2, sl2]] :: X2 :: []) w88 := hA89
          have hFn := hF
          obtain ⟨A3, cv3, rfl, hcv3, hRV3⟩ := hV3.rc (w0 := w0) (R := [V3]) (List.mem_cons_self ..)
          have hF := hFn
          refine vc_opg hF rfl rfl rfl rfl (fun K hK => ws_call hF rfl (by decide) cl42_s17 rfl rfl ?_)
          with_reducible refine (rt_sameI w0 _ (V3 :: V2 :: V1 :: [row b22 45 [top, sl]] :: XC :: X :: [row b5 45 [top1, sl1]] :: X1 :: [row b17 45 [top2, sl2]] :: X2 :: []) [V1] [V3] (sub1 (List.mem_cons_of_mem _ (List.mem_cons_of_mem _ ((List.mem_cons_self ..))))) (sub1 ((List.mem_cons_self ..))) A1 A3 L cv1 cv3 (by omega) hLok hRV1 hRV3 hA89 ).mono ?_
          rintro e' w90 ⟨rfl, hA91⟩
          refine ⟨_, rfl, fun a hF => hK _ _ ?_⟩
          clear hK K
          replace hA91 : Hp w0 (V3 :: V2 :: V1 :: [row b22 45 [top, sl]] :: XC :: X :: [row b5 45 [top1, sl1]] :: X1 :: [row b17 45 [top2, sl2]] :: X2 :: []) w90 := hA91
          refine vc_yg hF rfl rfl rfl rfl rfl (by decide) _ (y_not rfl rfl rfl) (fun a hF => ?_)
          refine vc_y hF rfl rfl (by decide) _ (y_pick rfl rfl rfl) (fun a hF => ?_)
          refine vc_nil ?_
          refine hK35 _ _ ?_; clear  hK35 K35
          refine vc_false hF rfl ?_
          apply wp_skip
          refine hK34 _ _ ?_; clear  hK34 K34
          apply wp_seq_k; intro K36 hK36
          apply wp_seq_k; intro K37 hK37
          refine wp_region_lit ?_
          refine vc_y hF rfl rfl (by decide) _ (y_assign rfl rfl) (fun a hF => ?_)
          refine vc_nil ?_
          refine hK37 _ _ ?_; clear  hK37 K37
          apply wp_block
          have hA92 : Hp w0 (V1 :: XC :: X1 :: [row b22 45 [top, sl]] :: [row b5 45 [top1, sl1]] :: []) w90 := Hp.sel [V3, V2, V1, [row b22 45 [top, sl]], XC, X, [row b5 45 [top1, sl1]], X1, [row b17 45 [top2, sl2]], X2] [] [2, 4, 7, 3, 6] [0, 1, 5, 8, 9] hA91 rfl
          refine vc_loop (G := Nat) (fun m a x => m ≤ L.length ∧ Fr 201 [(22, .int .i64 (m : Int)), (0, .int .i64 width), (7, .pointer (some ⟨b5, 0, none⟩)), (14, .pointer (some ⟨b22, 0, none⟩)), (21, .slice A1 L.length cv1)] a ∧ Hp w0 (V1 :: XC :: X1 :: [row b22 45 [top, sl]] :: [row b5 45 [top1, sl1]] :: []) x) (fun m => L.length - m) 0 (⟨Nat.zero_le _, hF.keep [22, 0, 7, 14, 21] rfl, hA92⟩) ?_
          clear hF
          rintro m a w94 ⟨hm, hF, hA93⟩
          by_cases h1 : m < L.length
          · by_cases h6 : m < 6
            · apply wp_seq_k; intro K38 hK38
              apply wp_seq_k; intro K39 hK39
              refine wp_region_lit ?_
              refine vc_y hF rfl rfl (by decide) _ (y_move rfl rfl) (fun a hF => ?_)
              refine vc_y hF rfl rfl (by decide) _ (y_move rfl rfl) (fun a hF => ?_)
              refine vc_y hF rfl rfl (by decide) _ (y_lenSl rfl Tryd.underlying55 rfl rfl) (fun a hF => ?_)
              refine vc_y hF rfl rfl (by decide) _ (y_cmp rfl rfl rfl rfl (lss_t (by omega))) (fun a hF => ?_)
              refine vc_y hF rfl rfl (by decide) _ (y_move rfl rfl) (fun a hF => ?_)
              refine vc_yg hF rfl rfl rfl rfl rfl (by decide) _ (y_move rfl rfl) (fun a hF => ?_)
              refine vc_yg hF rfl rfl rfl rfl rfl (by decide) _ (y_cmp rfl rfl rfl rfl (lss_t (by omega))) (fun a hF => ?_)
              refine vc_y hF rfl rfl (by decide) _ (y_pick rfl rfl rfl) (fun a hF => ?_)
              refine vc_nil ?_
              refine hK39 _ _ ?_; clear  hK39 K39
              refine vc_true hF rfl ?_
              obtain ⟨xi, hxi⟩ : ∃ x, L[m]? = some x := ⟨_, List.getElem?_eq_getElem h1⟩
              have hxK := hLok xi (List.mem_of_getElem? hxi)
              obtain ⟨b, q, hAd, hc⟩ := hRV1.ne (i := m * 65) (by have := (rs_at hLok hxi).2; omega)
              apply wp_skip
              refine hK38 _ _ ?_; clear  hK38 K38
              apply wp_seq_k; intro K40 hK40
              apply wp_block
              apply wp_seq_k; intro K41 hK41
              refine wp_region_plan 17 [7,15,16,17] [0,1,2,3,4,5,6,8,9,10,11,12,13,14,7,15,16,17] (fun x => Hq w0 (V1 :: XC :: X1 :: [row b22 45 [top, sl]] :: [row b5 45 [top1, sl1]] :: []) x) (by kernel_rfl) (by kernel_rfl) (Hq.drew (Hp.qp [V1, XC, X1, [row b22 45 [top, sl]], [row b5 45 [top1, sl1]]] [] [0, 1, 2, 3, 4] hA93)) ?_
              have hA95 := Hl.drew hA93
              refine vp_y hF rfl rfl rfl rfl (by decide) _ (fun x hx => y_ldRow (new := [top1, sl1]) rfl hx rfl 4 rfl rw45_s17 (Nat.le_of_ble_eq_true rfl) rfl) (fun a hF => ?_)
              refine vp_y hF rfl rfl rfl rfl (by decide) _ (fun x hx => y_move rfl rfl) (fun a hF => ?_)
              refine vp_y hF rfl rfl rfl rfl (by decide) _ (fun x hx => y_move rfl rfl) (fun a hF => ?_)
              refine vp_y hF rfl rfl rfl rfl (by decide) _ (fun x hx => y_move rfl rfl) (fun a hF => ?_)
              refine vp_y hF rfl rfl rfl rfl (by decide) _ (fun x hx => y_ixSl rfl Tryd.underlying55 sz54_s17 (by exact congrArg (fun A => some (Value.slice A L.length cv1)) hAd) rfl m rfl h1 rfl) (fun a hF => ?_)
              refine vp_y hF rfl rfl rfl rfl (by decide) _ (fun x hx => y_field rfl Tryd.underlying54 rfl sz23_s17 (by decide) rfl (rfl : (⟨_, _ + _, none⟩ : Addr) = ⟨b, q + m * 65 + 0, none⟩)) (fun a hF => ?_)
              refine vp_y hF rfl rfl rfl rfl (by decide) _ (fun x hx => y_ldRowC rfl (Hq.sub hx (sub1 ((List.mem_cons_self ..)))) rfl hc (m * 65) (by have := (rs_at hLok hxi).2; omega) rfl (rs_key hLok hxi) rw23_s17) (fun a hF => ?_)
              refine vp_y hF rfl rfl rfl rfl (by decide) _ (fun x hx => y_ldRow (new := [top, sl]) rfl hx rfl 3 rfl rw45_s17 (Nat.le_of_ble_eq_true rfl) rfl) (fun a hF => ?_)
              refine vp_y hF rfl rfl rfl rfl (by decide) _ (fun x hx => y_move rfl rfl) (fun a hF => ?_)
              refine vp_y hF rfl rfl rfl rfl (by decide) _ (fun x hx => y_move rfl rfl) (fun a hF => ?_)
              refine vp_y hF rfl rfl rfl rfl (by decide) _ (fun x hx => y_move rfl rfl) (fun a hF => ?_)
              refine vp_y hF rfl rfl rfl rfl (by decide) _ (fun x hx => y_ixSl rfl Tryd.underlying55 sz54_s17 (by exact congrArg (fun A => some (Value.slice A L.length cv1)) hAd) rfl m rfl h1 rfl) (fun a hF => ?_)
              refine vp_y hF rfl rfl rfl rfl (by decide) _ (fun x hx => y_field rfl Tryd.underlying54 rfl sz23_s17 (by decide) rfl (rfl : (⟨_, _ + _, none⟩ : Addr) = ⟨b, q + m * 65 + 0, none⟩)) (fun a hF => ?_)
              refine vp_y hF rfl rfl rfl rfl (by decide) _ (fun x hx => y_ldRowC rfl (Hq.sub hx (sub1 ((List.mem_cons_self ..)))) rfl hc (m * 65) (by have := (rs_at hLok hxi).2; omega) rfl (rs_key hLok hxi) rw23_s17) (fun a hF => ?_)
              refine vp_l rfl rfl rfl (fun K hK => ws_call hF rfl (by decide) cl40_s17 rfl rfl ?_)
              with_reducible refine (rt_prove w0 _ (V1 :: XC :: X1 :: [row b22 45 [top, sl]] :: [row b5 45 [top1, sl1]] :: []) [X1] (sub1 (List.mem_cons_of_mem _ (List.mem_cons_of_mem _ ((List.mem_cons_self ..))))) L top1 sl1 hTV1 width xi.k hxK.k hT hA95 ).mono ?_
              rintro e' w96 ⟨s1, Y1, rfl, hS1, hA97⟩
              refine ⟨_, rfl, fun a hF => hK _ _ (fun _ => ?_) ?_⟩
              · exact Hp.qp [Y1, V1, XC, X1, [row b22 45 [top, sl]], [row b5 45 [top1, sl1]]] [] [1, 2, 3, 4, 5] hA97
              clear hK K
              replace hA97 : Hp w0 (Y1 :: V1 :: XC :: X1 :: [row b22 45 [top, sl]] :: [row b5 45 [top1, sl1]] :: []) w96 := hA97
              refine vp_l rfl rfl rfl (fun K hK => ws_call hF rfl (by decide) cl40_s17 rfl rfl ?_)
              with_reducible refine (rt_prove w0 _ (Y1 :: V1 :: XC :: X1 :: [row b22 45 [top, sl]] :: [row b5 45 [top1, sl1]] :: []) [XC] (sub1 (List.mem_cons_of_mem _ (List.mem_cons_of_mem _ ((List.mem_cons_self ..))))) L top sl hTVc width xi.k hxK.k hT hA97 ).mono ?_
              rintro e' w98 ⟨s2, Y2, rfl, hS2, hA99⟩
              refine ⟨_, rfl, fun a hF => hK _ _ (fun _ => ?_) ?_⟩
              · exact Hp.qp [Y2, Y1, V1, XC, X1, [row b22 45 [top, sl]], [row b5 45 [top1, sl1]]] [] [2, 3, 4, 5, 6] hA99
              clear hK K
              replace hA99 : Hp w0 (Y2 :: Y1 :: V1 :: XC :: X1 :: [row b22 45 [top, sl]] :: [row b5 45 [top1, sl1]] :: []) w98 := hA99
              have hpp := prvP_ok (width := width) hLok xi.k (Nat.le_refl 256)
              have hFn := hF
              obtain ⟨SA1, sc1, rfl, _, hR1⟩ := hS1.rc (w0 := w0) (R := [Y1]) (List.mem_cons_self ..)
              obtain ⟨SA2, sc2, rfl, _, hR2⟩ := hS2.rc (w0 := w0) (R := [Y2]) (List.mem_cons_self ..)
              have hF := hFn
              refine vp_l rfl rfl rfl (fun K hK => ws_call hF rfl (by decide) cl24_s17 rfl rfl ?_)
              with_reducible refine (sp_sameProofs w0 _ (Y2 :: Y1 :: V1 :: XC :: X1 :: [row b22 45 [top, sl]] :: [row b5 45 [top1, sl1]] :: []) [Y1] [Y2] (sub1 (List.mem_cons_of_mem _ ((List.mem_cons_self ..)))) (sub1 ((List.mem_cons_self ..))) _ _ SA1 SA2 sc1 sc2 hpp hpp hR1 hR2 hA99 ).mono ?_
              rintro e' w100 ⟨sb, rfl, hsb, hA101⟩
              refine ⟨_, rfl, fun a hF => hK _ _ (fun _ => ?_) ?_⟩
              · exact Hp.qp [Y2, Y1, V1, XC, X1, [row b22 45 [top, sl]], [row b5 45 [top1, sl1]]] [] [2, 3, 4, 5, 6] hA101
              clear hK K
              replace hA101 : Hp w0 (Y2 :: Y1 :: V1 :: XC :: X1 :: [row b22 45 [top, sl]] :: [row b5 45 [top1, sl1]] :: []) w100 := hA101
              rw [hsb rfl] at hF
              refine vp_ly hF rfl rfl rfl rfl (by decide) _ (y_not rfl rfl rfl) (fun h => absurd h (by decide)) (fun a hF => ?_)
              refine plan_end ?_
              refine hK41 _ _ ?_; clear  hK41 K41
              refine vc_false hF rfl ?_
              apply wp_skip
              refine hK40 _ _ ?_; clear  hK40 K40
              refine wp_region_lit ?_
              refine vc_y hF rfl rfl (by decide) _ (y_move rfl rfl) (fun a hF => ?_)
              refine vc_y hF rfl rfl (by decide) _ (y_add rfl rfl rfl (IntWalk.i64_in _ (by omega))) (fun a hF => ?_)
              refine vc_y hF rfl rfl (by decide) _ (y_assign rfl rfl) (fun a hF => ?_)
              refine vc_nil ?_
              have hA102 : Hp w0 (V1 :: XC :: X1 :: [row b22 45 [top, sl]] :: [row b5 45 [top1, sl1]] :: []) w100 := Hp.sel [Y2, Y1, V1, XC, X1, [row b22 45 [top, sl]], [row b5 45 [top1, sl1]]] [] [2, 3, 4, 5, 6] [0, 1] hA101 rfl
              exact ⟨m + 1, by omega, by omega, hF.keep [22, 0, 7, 14, 21] rfl, hA102⟩
            · apply wp_seq_k; intro K42 hK42
              apply wp_seq_k; intro K43 hK43
              refine wp_region_lit ?_
              refine vc_y hF rfl rfl (by decide) _ (y_move rfl rfl) (fun a hF => ?_)
              refine vc_y hF rfl rfl (by decide) _ (y_move rfl rfl) (fun a hF => ?_)
              refine vc_y hF rfl rfl (by decide) _ (y_lenSl rfl Tryd.underlying55 rfl rfl) (fun a hF => ?_)
              refine vc_y hF rfl rfl (by decide) _ (y_cmp rfl rfl rfl rfl (lss_t (by omega))) (fun a hF => ?_)
              refine vc_y hF rfl rfl (by decide) _ (y_move rfl rfl) (fun a hF => ?_)
              refine vc_yg hF rfl rfl rfl rfl rfl (by decide) _ (y_move rfl rfl) (fun a hF => ?_)
              refine vc_yg hF rfl rfl rfl rfl rfl (by decide) _ (y_cmp rfl rfl rfl rfl (lss_f (by omega))) (fun a hF => ?_)
              refine vc_y hF rfl rfl (by decide) _ (y_pick rfl rfl rfl) (fun a hF => ?_)
              refine vc_nil ?_
              refine hK43 _ _ ?_; clear  hK43 K43
              refine vc_false hF rfl ?_
              apply wp_exit
              refine hK36 _ _ ?_; clear hK42 K42 hK36 K36
              apply wp_seq_k; intro K44 hK44
              refine wp_region_lit ?_
              refine vc_y hF rfl rfl (by decide) _ (y_assign rfl rfl) (fun a hF => ?_)
              refine vc_nil ?_
              refine hK44 _ _ ?_; clear  hK44 K44
              apply wp_ret
              refine vc_ret1 hF Tryd.results8 rfl ?_
              exact ⟨rfl, hA93.at0⟩
          · apply wp_seq_k; intro K45 hK45
            apply wp_seq_k; intro K46 hK46
            refine wp_region_lit ?_
            refine vc_y hF rfl rfl (by decide) _ (y_move rfl rfl) (fun a hF => ?_)
            refine vc_y hF rfl rfl (by decide) _ (y_move rfl rfl) (fun a hF => ?_)
            refine vc_y hF rfl rfl (by decide) _ (y_lenSl rfl Tryd.underlying55 rfl rfl) (fun a hF => ?_)
            refine vc_y hF rfl rfl (by decide) _ (y_cmp rfl rfl rfl rfl (lss_f (by omega))) (fun a hF => ?_)
            refine vc_y hF rfl rfl (by decide) _ (y_move rfl rfl) (fun a hF => ?_)
            refine vc_skip hF rfl rfl rfl rfl rfl rfl (by decide) (fun a hF => ?_)
            refine vc_skip hF rfl rfl rfl rfl rfl rfl (by decide) (fun a hF => ?_)
            refine vc_y hF rfl rfl (by decide) _ (y_pick rfl rfl rfl) (fun a hF => ?_)
            refine vc_nil ?_
            refine hK46 _ _ ?_; clear  hK46 K46
            refine vc_false hF rfl ?_
            apply wp_exit
            refine hK36 _ _ ?_; clear hK45 K45 hK36 K36
            apply wp_seq_k; intro K47 hK47
            refine wp_region_lit ?_
            refine vc_y hF rfl rfl (by decide) _ (y_assign rfl rfl) (fun a hF => ?_)
            refine vc_nil ?_
            refine hK47 _ _ ?_; clear  hK47 K47
            apply wp_ret
            refine vc_ret1 hF Tryd.results8 rfl ?_
            exact ⟨rfl, hA93.at0⟩
    · have h02 : ¬ (bldS [] mm).1 = 0 := fun h => h0 (hbi.2 h)
      refine wp_region_lit ?_
      refine vc_y hF rfl rfl (by decide) _ (y_move rfl rfl) (fun a hF => ?_)
      refine vc_y hF rfl rfl (by decide) _ (y_cmp rfl rfl rfl rfl (eql_f (by omega))) (fun a hF => ?_)
      refine vc_y hF rfl rfl (by decide) _ (y_move rfl rfl) (fun a hF => ?_)
      refine vc_y hF rfl rfl (by decide) _ (y_cmp rfl rfl rfl rfl (eql_f (by omega))) (fun a hF => ?_)
      refine vc_y hF rfl rfl (by decide) _ (y_binR (r := .bool false) rfl rfl rfl (fun w => by kernel_rfl)) (fun a hF => ?_)
      refine vc_nil ?_
      refine hK9 _ _ ?_; clear  hK9 K9
      refine vc_false hF rfl ?_
      apply wp_skip
      refine hK8 _ _ ?_; clear  hK8 K8
      apply wp_seq_k; intro K48 hK48
      apply wp_seq_k; intro K49 hK49
      refine wp_region_lit ?_
      refine vc_y hF rfl rfl (by decide) _ (y_move rfl rfl) (fun a hF => ?_)
      refine vc_y hF rfl rfl (by decide) _ (y_cmp rfl rfl rfl rfl (neq_t (by omega))) (fun a hF => ?_)
      refine vc_nil ?_
      refine hK49 _ _ ?_; clear  hK49 K49
      refine vc_true hF rfl ?_
      apply wp_seq_k; intro K50 hK50
      refine wp_region_lit ?_
      refine vc_y hF rfl rfl (by decide) _ (y_assign rfl rfl) (fun a hF => ?_)
      refine vc_nil ?_
      refine hK50 _ _ ?_; clear  hK50 K50
      apply wp_ret
      simp only [Exit.then]
      refine vc_ret1 hF Tryd.results8 rfl ?_
      exact ⟨rfl, hA21.at0⟩
  apply wp_block
  refine vc_loop (G := Nat × List Itm) (fun gh a x => ∃ (X : Seg), gh.1 ≤ l0.length ∧ gh.2.Perm l0 ∧ Buf 54 65 X (.slice LA l0.length lc) l0.length (cel Itm.cells gh.2) ∧ Fr 201 [(10, .int .i64 (gh.1 : Int)), (0, .int .i64 width), (1, .slice A l0.length c), (2, .slice TA ts.length tc), (7, .pointer (some ⟨b5, 0, none⟩)), (8, .int .i64 (((bldS [] l0).1 : Nat) : Int)), (9, .slice LA l0.length lc)] a ∧ Hp w0 (X :: [row b5 45 [top1, sl1]] :: X1 :: []) x) (fun gh => l0.length - gh.1) (0, l0) (⟨_, Nat.zero_le _, List.Perm.refl _, hO1, hF.keep [10, 0, 1, 2, 7, 8, 9] rfl, hA14⟩) ?_
  clear hF
  rintro gh a w104 ⟨X, hi, hp, hB, hF, hA103⟩
  obtain ⟨i, mm⟩ := gh
  simp only at hi hp hB hF
  have hml : mm.length = l0.length := hp.length_eq
  have hIm : ∀ i ∈ mm, i.OK := fun i hi => hI0 i (hp.mem_iff.1 hi)
  by_cases h1 : i < ts.length
  · by_cases h2 : i < l0.length
    · apply wp_seq_k; intro K51 hK51
      apply wp_seq_k; intro K52 hK52
      refine wp_region_lit ?_
      refine vc_y hF rfl rfl (by decide) _ (y_move rfl rfl) (fun a hF => ?_)
      refine vc_y hF rfl rfl (by decide) _ (y_move rfl rfl) (fun a hF => ?_)
      refine vc_y hF rfl rfl (by decide) _ (y_lenSl rfl Tryd.underlying84 rfl rfl) (fun a hF => ?_)
      refine vc_y hF rfl rfl (by decide) _ (y_cmp rfl rfl rfl rfl (lss_t (by omega))) (fun a hF => ?_)
      refine vc_y hF rfl rfl (by decide) _ (y_move rfl rfl) (fun a hF => ?_)
      refine vc_yg hF rfl rfl rfl rfl rfl (by decide) _ (y_move rfl rfl) (fun a hF => ?_)
      refine vc_yg hF rfl rfl rfl rfl rfl (by decide) _ (y_move rfl rfl) (fun a hF => ?_)
      refine vc_yg hF rfl rfl rfl rfl rfl (by decide) _ (y_lenSl rfl Tryd.underlying55 rfl rfl) (fun a hF => ?_)
      refine vc_yg hF rfl rfl rfl rfl rfl (by decide) _ (y_cmp rfl rfl rfl rfl (lss_t (by omega))) (fun a hF => ?_)
      refine vc_y hF rfl rfl (by decide) _ (y_pick rfl rfl rfl) (fun a hF => ?_)
      refine vc_nil ?_
      refine hK52 _ _ ?_; clear  hK52 K52
      refine vc_true hF rfl ?_
      obtain ⟨t, ht⟩ : ∃ t, ts[i]? = some t := ⟨_, List.getElem?_eq_getElem h1⟩
      obtain ⟨bt, qt, hAt, hct⟩ := hTS.ne (i := i) (by rw [List.length_map]; exact h1)
      obtain ⟨j, hj, hjl⟩ : ∃ j : Nat, withinI t 0 ((l0.length : Int) - 1) = (j : Int) ∧ j < l0.length := by
        have := within_le t 0 ((l0.length : Int) - 1) (by omega)
        exact ⟨(withinI t 0 ((l0.length : Int) - 1)).toNat, by omega, by omega⟩
      obtain ⟨x, hx⟩ : ∃ x, mm[i]? = some x := ⟨_, List.getElem?_eq_getElem (by omega)⟩
      obtain ⟨y, hy⟩ : ∃ y, mm[j]? = some y := ⟨_, List.getElem?_eq_getElem (by omega)⟩
      have hxK := hIm x (List.mem_of_getElem? hx)
      have hyK := hIm y (List.mem_of_getElem? hy)
      have hxr := rs_at hIm hx
      have hyr := rs_at hIm hy
      have hcl := cel_len65 hIm
      obtain ⟨gB, BB, ZB, cB, he, rfl, hWB, hcb, hBk⟩ := hB.openF (by omega)
      injection he with he1 he2 he3
      have hFn := hF
      subst he1 he3
      have hF := hFn
      apply wp_skip
      refine hK51 _ _ ?_; clear  hK51 K51
      apply wp_seq_k; intro K53 hK53
      apply wp_block
      apply wp_seq_k; intro K54 hK54
      refine wp_region_lit ?_
      refine vc_y hF rfl rfl (by decide) _ (y_move rfl rfl) (fun a hF => ?_)
      refine vc_y hF rfl rfl (by decide) _ (y_move rfl rfl) (fun a hF => ?_)
      refine vc_y hF rfl rfl (by decide) _ (y_ixSl rfl Tryd.underlying84 sz3_s17 (by exact congrArg (fun A => some (Value.slice A ts.length tc)) hAt) rfl i rfl h1 rfl) (fun a hF => ?_)
      refine vc_y hF rfl rfl (by decide) _ (y_ldC rfl (Hq.sub hA103.q (List.nil_subset _)) rfl hct i (by rw [List.length_map]; exact h1) (by omega) (by rw [List.getElem?_map, ht]; rfl) nr3_s17) (fun a hF => ?_)
      refine vc_y hF rfl rfl (by decide) _ (y_move rfl rfl) (fun a hF => ?_)
      refine vc_y hF rfl rfl (by decide) _ (y_lenSl rfl Tryd.underlying55 rfl rfl) (fun a hF => ?_)
      refine vc_y hF rfl rfl (by decide) _ (y_sub rfl rfl rfl (IntWalk.i64_in _ (by omega))) (fun a hF => ?_)
      refine vc_op rfl (fun K hK => ws_call hF rfl (by decide) cl36_s17 rfl rfl ?_)
      with_reducible refine (rt_within w0 _ ([row gB 54 (BB ++ cel Itm.cells mm ++ ZB)] :: [row b5 45 [top1, sl1]] :: X1 :: []) _ 0 ((l0.length : Int) - 1) (by omega) (by omega) (by omega) hA103 ).mono ?_
      rintro e' w105 ⟨rfl, hA106⟩
      refine ⟨_, rfl, fun a hF => hK _ _ ?_⟩
      clear hK K
      replace hA106 : Hp w0 ([row gB 54 (BB ++ cel Itm.cells mm ++ ZB)] :: [row b5 45 [top1, sl1]] :: X1 :: []) w105 := hA106
      rw [hj] at hF
      refine vc_y hF rfl rfl (by decide) _ (y_assign rfl rfl) (fun a hF => ?_)
      refine vc_nil ?_
      refine hK54 _ _ ?_; clear  hK54 K54
      have hl2 : (cel Itm.cells (mm.set i y)).length = l0.length * 65 := by rw [cel_len65 (fun z hz => by rcases List.mem_or_eq_of_mem_set hz with h | rfl; exact hIm z h; exact hyK), List.length_set, hml]
      have hl3 : (cel Itm.cells ((mm.set i y).set j x)).length = l0.length * 65 := by rw [cel_len65 (fun z hz => by rcases List.mem_or_eq_of_mem_set hz with h | rfl; (rcases List.mem_or_eq_of_mem_set h with h | rfl; exact hIm z h; exact hyK); exact hxK), List.length_set, List.length_set, hml]
      refine wp_region_planS 12 [2, 3] [12,13,14,15] [0,1,2,3,4,5,6,7,8,9,10,11,12,13,14,15] (fun x => Hq w0 ([row gB 54 (BB ++ cel Itm.cells mm ++ ZB)] :: [row b5 45 [top1, sl1]] :: X1 :: []) x) (by kernel_rfl) (by kernel_rfl) (Hq.drew (Hp.qp [[row gB 54 (BB ++ cel Itm.cells mm ++ ZB)], [row b5 45 [top1, sl1]], X1] [] [0, 1, 2] hA106)) ?_
      have hA107 := Hl.drew hA106
      refine vs_y hF rfl rfl rfl rfl (by decide) _ (fun x hx => y_move rfl rfl) (fun a hF => ?_)
      refine vs_y hF rfl rfl rfl rfl (by decide) _ (fun x hx => y_move rfl rfl) (fun a hF => ?_)
      refine vs_y hF rfl rfl rfl rfl (by decide) _ (fun x hx => y_move rfl rfl) (fun a hF => ?_)
      refine vs_y hF rfl rfl rfl rfl (by decide) _ (fun x hx => y_move rfl rfl) (fun a hF => ?_)
      refine vs_y hF rfl rfl rfl rfl (by decide) _ (fun x hx => y_move rfl rfl) (fun a hF => ?_)
      refine vs_y hF rfl rfl rfl rfl (by decide) _ (fun x hx => y_move rfl rfl) (fun a hF => ?_)
      refine vs_y hF rfl rfl rfl rfl (by decide) _ (fun x hx => y_ixSl rfl Tryd.underlying55 sz54_s17 rfl rfl j rfl (by omega) rfl) (fun a hF => ?_)
      refine vs_y hF rfl rfl rfl rfl (by decide) _ (fun x hx => y_ldRowC rfl (hx rfl) rfl (mid_cells (List.mem_cons_self ..)) (j * 65) hyr.2 rfl hyr.1 rw54_s17) (fun a hF => ?_)
      refine vs_y hF rfl rfl rfl rfl (by decide) _ (fun x hx => y_move rfl rfl) (fun a hF => ?_)
      refine vs_y hF rfl rfl rfl rfl (by decide) _ (fun x hx => y_move rfl rfl) (fun a hF => ?_)
      refine vs_y hF rfl rfl rfl rfl (by decide) _ (fun x hx => y_ixSl rfl Tryd.underlying55 sz54_s17 rfl rfl i rfl (by omega) rfl) (fun a hF => ?_)
      refine vs_y hF rfl rfl rfl rfl (by decide) _ (fun x hx => y_ldRowC rfl (hx rfl) rfl (mid_cells (List.mem_cons_self ..)) (i * 65) hxr.2 rfl hxr.1 rw54_s17) (fun a hF => ?_)
      refine vs_ly hF rfl rfl rfl rfl (by decide) _ (y_ixSl rfl Tryd.underlying55 sz54_s17 rfl rfl i rfl (by omega) rfl) (fun h => absurd h (by decide)) (fun a hF => ?_)
      refine vs_l rfl rfl rfl (fun K hK => hs_storeRow (new := y.cells) hF rfl rfl hA107 rfl rfl 0 rfl (by rw [List.length_append, List.length_append, hWB, Itm.len hyK]; omega) (Itm.one y) (by rw [Itm.len hyK]; exact sz54_s17) (fun w108 hA109 => hK _ _ (fun h => absurd h (by decide)) ?_))
      clear hK K
      replace hA109 : Hp w0 ([row gB 54 (BB ++ cel Itm.cells (mm.set i y) ++ ZB)] :: [row b5 45 [top1, sl1]] :: X1 :: []) w108 := by
        have e := splice_in (B := BB) (W := cel Itm.cells mm) (Z := ZB) (k := i * 65) (V := y.cells) (by rw [hWB, Itm.len hyK]; omega)
        have e2 := cel_set (C := Itm.cells) (sz := 65) (l := mm) (i := i) (x := y) (itm_len _ (by exact hIm)) (by omega) (Itm.len hyK)
        rw [← e2, ← e]; exact hA109
      refine vs_ly hF rfl rfl rfl rfl (by decide) _ (y_ixSl rfl Tryd.underlying55 sz54_s17 rfl rfl j rfl (by omega) rfl) (fun h => absurd h (by decide)) (fun a hF => ?_)
      refine vs_l rfl rfl rfl (fun K hK => hs_storeRow (new := x.cells) hF rfl rfl hA109 rfl rfl 0 rfl (by rw [List.length_append, List.length_append, hl2, Itm.len hxK]; omega) (Itm.one x) (by rw [Itm.len hxK]; exact sz54_s17) (fun w110 hA111 => hK _ _ (fun h => absurd h (by decide)) ?_))
      clear hK K
      replace hA111 : Hp w0 ([row gB 54 (BB ++ cel Itm.cells ((mm.set i y).set j x) ++ ZB)] :: [row b5 45 [top1, sl1]] :: X1 :: []) w110 := by
        have e := splice_in (B := BB) (W := cel Itm.cells (mm.set i y)) (Z := ZB) (k := j * 65) (V := x.cells) (by rw [hl2, Itm.len hxK]; omega)
        have e2 := cel_set (C := Itm.cells) (sz := 65) (l := (mm.set i y)) (i := j) (x := x) (itm_len _ (by intro z hz; rcases List.mem_or_eq_of_mem_set hz with h | rfl; exact hIm z h; exact hyK)) (by rw [List.length_set]; omega) (Itm.len hxK)
        rw [← e2, ← e]; exact hA111
      refine vs_end ?_
      refine hK53 _ _ ?_; clear  hK53 K53
      refine wp_region_lit ?_
      refine vc_y hF rfl rfl (by decide) _ (y_move rfl rfl) (fun a hF => ?_)
      refine vc_y hF rfl rfl (by decide) _ (y_add rfl rfl rfl (IntWalk.i64_in _ (by omega))) (fun a hF => ?_)
      refine vc_y hF rfl rfl (by decide) _ (y_assign rfl rfl) (fun a hF => ?_)
      refine vc_nil ?_
      have hp2 : ((mm.set i y).set j x).Perm mm := swap_perm hx hy
      exact ⟨(i + 1, (mm.set i y).set j x), (by show l0.length - (i + 1) < l0.length - i; omega), _, (by show i + 1 ≤ _; omega), hp2.trans hp, hBk _ hl3, hF.keep [10, 0, 1, 2, 7, 8, 9] rfl, hA111⟩
    · have hge : l0.length ≤ i := by omega
      apply wp_seq_k; intro K55 hK55
      apply wp_seq_k; intro K56 hK56
      refine wp_region_lit ?_
      refine vc_y hF rfl rfl (by decide) _ (y_move rfl rfl) (fun a hF => ?_)
      refine vc_y hF rfl rfl (by decide) _ (y_move rfl rfl) (fun a hF => ?_)
      refine vc_y hF rfl rfl (by decide) _ (y_lenSl rfl Tryd.underlying84 rfl rfl) (fun a hF => ?_)
      refine vc_y hF rfl rfl (by decide) _ (y_cmp rfl rfl rfl rfl (lss_t (by omega))) (fun a hF => ?_)
      refine vc_y hF rfl rfl (by decide) _ (y_move rfl rfl) (fun a hF => ?_)
      refine vc_yg hF rfl rfl rfl rfl rfl (by decide) _ (y_move rfl rfl) (fun a hF => ?_)
      refine vc_yg hF rfl rfl rfl rfl rfl (by decide) _ (y_move rfl rfl) (fun a hF => ?_)
      refine vc_yg hF rfl rfl rfl rfl rfl (by decide) _ (y_lenSl rfl Tryd.underlying55 rfl rfl) (fun a hF => ?_)
      refine vc_yg hF rfl rfl rfl rfl rfl (by decide) _ (y_cmp rfl rfl rfl rfl (lss_f (by omega))) (fun a hF => ?_)
      refine vc_y hF rfl rfl (by decide) _ (y_pick rfl rfl rfl) (fun a hF => ?_)
      refine vc_nil ?_
      refine hK56 _ _ ?_; clear  hK56 K56
      refine vc_false hF rfl ?_
      apply wp_exit
      exact hJ _ _ X mm hp hB (hF.keep [0, 1, 2, 7, 8, 9] rfl) hA103
  · apply wp_seq_k; intro K57 hK57
    apply wp_seq_k; intro K58 hK58
    refine wp_region_lit ?_
    refine vc_y hF rfl rfl (by decide) _ (y_move rfl rfl) (fun a hF => ?_)
    refine vc_y hF rfl rfl (by decide) _ (y_move rfl rfl) (fun a hF => ?_)
    refine vc_y hF rfl rfl (by decide) _ (y_lenSl rfl Tryd.underlying84 rfl rfl) (fun a hF => ?_)
    refine vc_y hF rfl rfl (by decide) _ (y_cmp rfl rfl rfl rfl (lss_f (by omega))) (fun a hF => ?_)
    refine vc_y hF rfl rfl (by decide) _ (y_move rfl rfl) (fun a hF => ?_)
    refine vc_skip hF rfl rfl rfl rfl rfl rfl (by decide) (fun a hF => ?_)
    refine vc_skip hF rfl rfl rfl rfl rfl rfl (by decide) (fun a hF => ?_)
    refine vc_skip hF rfl rfl rfl rfl rfl rfl (by decide) (fun a hF => ?_)
    refine vc_skip hF rfl rfl rfl rfl rfl rfl (by decide) (fun a hF => ?_)
    refine vc_y hF rfl rfl (by decide) _ (y_pick rfl rfl rfl) (fun a hF => ?_)
    refine vc_nil ?_
    refine hK58 _ _ ?_; clear  hK58 K58
    refine vc_false hF rfl ?_
    apply wp_exit
    exact hJ _ _ X mm hp hB (hF.keep [0, 1, 2, 7, 8, 9] rfl) hA103
end Go.Proofs.YtpomngkcfbnjoaaDoor
