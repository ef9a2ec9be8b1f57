/- A sparse tree: what it proves; how it is built. -/
import Derived.Test.YtpomngkcfbnjoaaDoorSpY
namespace Go.Proofs.YtpomngkcfbnjoaaDoor
open Go.RowKit Go.Dk

theorem nr26_s14 : notRow Tryd.prog 26 = true := by kernel_rfl
theorem nr43_s14 : notRow Tryd.prog 43 = true := by kernel_rfl
theorem rw23_s14 : isRow Tryd.prog 23 32 = true := by kernel_rfl
theorem rw25_s14 : isRow Tryd.prog 25 33 = true := by kernel_rfl
theorem rw45_s14 : isRow Tryd.prog 45 2 = true := by kernel_rfl
theorem rw54_s14 : isRow Tryd.prog 54 65 = true := by kernel_rfl
theorem sz23_s14 : (Tryd.prog.info? 23).map (·.size) = some 32 := by kernel_rfl
theorem sz25_s14 : (Tryd.prog.info? 25).map (·.size) = some 33 := by kernel_rfl
theorem sz26_s14 : (Tryd.prog.info? 26).map (·.size) = some 1 := by kernel_rfl
theorem sz43_s14 : (Tryd.prog.info? 43).map (·.size) = some 1 := by kernel_rfl
theorem sz45_s14 : (Tryd.prog.info? 45).map (·.size) = some 2 := by kernel_rfl
theorem sz54_s14 : (Tryd.prog.info? 54).map (·.size) = some 65 := by kernel_rfl
theorem cl54_s14 : CallsTo Tryd.prog 54 := ⟨_, Tryd.func54, by kernel_rfl, by kernel_rfl⟩
theorem cl56_s14 : CallsTo Tryd.prog 56 := ⟨_, Tryd.func56, by kernel_rfl, by kernel_rfl⟩
theorem cl57_s14 : CallsTo Tryd.prog 57 := ⟨_, Tryd.func57, by kernel_rfl, by kernel_rfl⟩
theorem cl64_s14 : CallsTo Tryd.prog 64 := ⟨_, Tryd.func64, by kernel_rfl, by kernel_rfl⟩
theorem cl65_s14 : CallsTo Tryd.prog 65 := ⟨_, Tryd.func65, by kernel_rfl, by kernel_rfl⟩
theorem zr45_s14 : zeroIs Tryd.prog 45 (.agg ([.pointer none, .slice none 0 0] : List Value).toArray) := by unfold zeroIs; kernel_rfl
theorem zr54_s14 : zeroIs Tryd.prog 54 (.agg ([.int .u8 0, .int .u8 0, .int .u8 0, .int .u8 0, .int .u8 0, .int .u8 0, .int .u8 0, .int .u8 0, .int .u8 0, .int .u8 0, .int .u8 0, .int .u8 0, .int .u8 0, .int .u8 0, .int .u8 0, .int .u8 0, .int .u8 0, .int .u8 0, .int .u8 0, .int .u8 0, .int .u8 0, .int .u8 0, .int .u8 0, .int .u8 0, .int .u8 0, .int .u8 0, .int .u8 0, .int .u8 0, .int .u8 0, .int .u8 0, .int .u8 0, .int .u8 0, .int .i64 0, .int .u8 0, .int .u8 0, .int .u8 0, .int .u8 0, .int .u8 0, .int .u8 0, .int .u8 0, .int .u8 0, .int .u8 0, .int .u8 0, .int .u8 0, .int .u8 0, .int .u8 0, .int .u8 0, .int .u8 0, .int .u8 0, .int .u8 0, .int .u8 0, .int .u8 0, .int .u8 0, .int .u8 0, .int .u8 0, .int .u8 0, .int .u8 0, .int .u8 0, .int .u8 0, .int .u8 0, .int .u8 0, .int .u8 0, .int .u8 0, .int .u8 0, .int .u8 0] : List Value).toArray) := by unfold zeroIs; kernel_rfl

/-- what Build holds: the items so far, the top, its rows -/
def BSt (acc : List Itm) (top : Value) (Y : Seg) : Prop := (acc = [] ∧ top = .pointer none ∧ Y = []) ∨ ∃ t g, t.items = acc ∧ t.Good ∧ top = ptr g ∧ TrO false t g Y
theorem BSt.nil : BSt [] (.pointer none) [] := .inl ⟨rfl, rfl, rfl⟩

set_option maxRecDepth 100000 in
set_option maxHeartbeats 2000000 in
theorem rt_build (w0 w : World) (R G : List Seg) (hG : G ⊆ R) (G0 : List Seg) (A : Option Addr) (l : List Itm) (c : Nat) (hlc : l.length ≤ c) (hcm : l.length ≤ 100000) (hI : ∀ i ∈ l, i.OK) (hL : Rc w0 G A (cel Itm.cells l)) (hT : Tab w0) (hA : Hp w0 R w) : Calls Tryd.prog 30 #[.slice A l.length c] w fun e w' => ∃ top sl X, e = .returned (.tuple #[.agg ([top, sl] : List Value).toArray, .int .i64 (((bldS [] l).1 : Nat) : Int)]) ∧ TV w0 (X :: G0) (bldS [] l).2 top sl ∧ Hp w0 (X :: R) w' := by
  refine vc_enter Tryd.func30 rfl Tryd.ntmps30 (Nat.le_of_ble_eq_true rfl) (fun a hF => ?_)
  apply wp_seq_k; intro K1 hK1
  refine wp_region_lit ?_
  refine vc_op rfl (fun K hK => hs_alloc hF rfl (by decide) rfl hA (zr45_s14) (fun b1 w2 a hb1 hF hA3 => hK _ _ ?_))
  clear hK K
  replace hA3 : Hp w0 ([row b1 45 [.pointer none, .slice none 0 0]] :: R) w2 := hA3
  refine vc_y hF rfl rfl (by decide) _ (y_assign rfl rfl) (fun a hF => ?_)
  refine vc_nil ?_
  refine hK1 _ _ ?_; clear  hK1 K1
  apply wp_seq_k; intro K2 hK2
  refine wp_region_lit ?_
  refine vc_op rfl (fun K hK => hs_alloc hF rfl (by decide) rfl hA3 (zr45_s14) (fun b4 w5 a hb4 hF hA6 => hK _ _ ?_))
  clear hK K
  replace hA6 : Hp w0 ([row b4 45 [.pointer none, .slice none 0 0]] :: [row b1 45 [.pointer none, .slice none 0 0]] :: R) w5 := hA6
  refine vc_nil ?_
  refine hK2 _ _ ?_; clear  hK2 K2
  apply wp_seq_k; intro K3 hK3
  apply wp_seq_k; intro K4 hK4
  refine wp_region_lit ?_
  refine vc_y hF rfl rfl (by decide) _ (y_move rfl rfl) (fun a hF => ?_)
  refine vc_y hF rfl rfl (by decide) _ (y_lenSl rfl Tryd.underlying55 rfl rfl) (fun a hF => ?_)
  refine vc_y hF rfl rfl (by decide) _ (y_move rfl rfl) (fun a hF => ?_)
  refine vc_nil ?_
  refine hK4 _ _ ?_; clear  hK4 K4
  apply wp_block
  have hA7 : Hp w0 ([row b4 45 [.pointer none, .slice none 0 0]] :: [] :: [row b1 45 [.pointer none, .slice none 0 0]] :: R) w5 := hA6
  refine vc_loop (G := Nat) (fun n a x => ∃ (acc : List Itm) (top : Value) (Y : Seg), n ≤ l.length ∧ bldS [] l = bldS acc (l.drop n) ∧ acc.length ≤ n ∧ BSt acc top Y ∧ Fr 49 [(10, .int .i64 (n : Int)), (8, .slice A l.length c), (9, .int .i64 l.length), (2, .pointer (some ⟨b1, 0, none⟩)), (4, .pointer (some ⟨b4, 0, none⟩))] a ∧ Hp w0 ([row b4 45 [top, .slice none 0 0]] :: Y :: [row b1 45 [.pointer none, .slice none 0 0]] :: R) x) (fun n => l.length - n) 0 (⟨_, _, _, Nat.zero_le _, (by rw [List.drop_zero]), Nat.le_refl _, BSt.nil, hF.keep [10, 8, 9, 2, 4] rfl, hA7⟩) ?_
  clear hF
  rintro n a w9 ⟨acc, top, Y, hn, hbl, hal, hB, hF, hA8⟩
  apply wp_seq_k; intro K5 hK5
  refine wp_region_lit ?_
  refine vc_y hF rfl rfl (by decide) _ (y_cmp rfl rfl rfl rfl rfl) (fun a hF => ?_)
  refine vc_nil ?_
  refine hK5 _ _ ?_; clear  hK5 K5
  apply wp_seq_k; intro K6 hK6
  by_cases hlt : n < l.length
  · refine vc_trueB hF rfl (lss_t (by omega)) ?_
    obtain ⟨i, hi⟩ : ∃ i, l[n]? = some i := ⟨_, List.getElem?_eq_getElem hlt⟩
    have hiK := hI i (List.mem_of_getElem? hi)
    have hrb := (rs_at hI hi).2
    obtain ⟨b, q, hA2, hc⟩ := hL.ne (i := n * 65) (by omega)
    have hdr : l.drop n = i :: l.drop (n + 1) := by rw [List.drop_eq_getElem_cons hlt]; congr 1; exact Option.some.inj ((List.getElem?_eq_getElem hlt).symm.trans hi)
    have hil : i.cells.length = 65 := Itm.len hiK
    have hdk : (dc i.k).length = 32 := by rw [dc_length, hiK.k]
    have hde : (Value.int .i64 i.ct :: dc i.ch).length = 33 := by rw [List.length_cons, dc_length, hiK.ch]
    apply wp_skip
    refine hK6 _ _ ?_; clear  hK6 K6
    apply wp_seq_k; intro K7 hK7
    apply wp_block
    apply wp_seq_k; intro K8 hK8
    refine wp_region_lit ?_
    refine vc_y hF rfl rfl (by decide) _ (y_ixSl rfl Tryd.underlying55 sz54_s14 (by exact congrArg (fun A => some (Value.slice A l.length c)) hA2) rfl n rfl hlt rfl) (fun a hF => ?_)
    refine vc_y hF rfl rfl (by decide) _ (y_ldRowC rfl (Hq.sub hA8.q (List.Subset.trans hG (subC (subC (subC (sub0)))))) rfl hc (n * 65) (rs_at hI hi).2 rfl (rs_at hI hi).1 rw54_s14) (fun a hF => ?_)
    refine vc_op rfl (fun K hK => hs_alloc hF rfl (by decide) rfl hA8 (zr54_s14) (fun b10 w11 a hb10 hF hA12 => hK _ _ ?_))
    clear hK K
    replace hA12 : Hp w0 ([row b10 54 [.int .u8 0, .int .u8 0, .int .u8 0, .int .u8 0, .int .u8 0, .int .u8 0, .int .u8 0, .int .u8 0, .int .u8 0, .int .u8 0, .int .u8 0, .int .u8 0, .int .u8 0, .int .u8 0, .int .u8 0, .int .u8 0, .int .u8 0, .int .u8 0, .int .u8 0, .int .u8 0, .int .u8 0, .int .u8 0, .int .u8 0, .int .u8 0, .int .u8 0, .int .u8 0, .int .u8 0, .int .u8 0, .int .u8 0, .int .u8 0, .int .u8 0, .int .u8 0, .int .i64 0, .int .u8 0, .int .u8 0, .int .u8 0, .int .u8 0, .int .u8 0, .int .u8 0, .int .u8 0, .int .u8 0, .int .u8 0, .int .u8 0, .int .u8 0, .int .u8 0, .int .u8 0, .int .u8 0, .int .u8 0, .int .u8 0, .int .u8 0, .int .u8 0, .int .u8 0, .int .u8 0, .int .u8 0, .int .u8 0, .int .u8 0, .int .u8 0, .int .u8 0, .int .u8 0, .int .u8 0, .int .u8 0, .int .u8 0, .int .u8 0, .int .u8 0, .int .u8 0]] :: [row b4 45 [top, .slice none 0 0]] :: Y :: [row b1 45 [.pointer none, .slice none 0 0]] :: R) w11 := hA12
    refine vc_op rfl (fun K hK => hs_storeAll (new := i.cells) hF rfl rfl hA12 rfl rfl 0 rfl (by rw [hil]; rfl) (Itm.one i) sz54_s14 (fun w13 hA14 => hK _ _ ?_))
    clear hK K
    replace hA14 : Hp w0 ([row b10 54 i.cells] :: [row b4 45 [top, .slice none 0 0]] :: Y :: [row b1 45 [.pointer none, .slice none 0 0]] :: R) w13 := hA14
    refine vc_nil ?_
    refine hK8 _ _ ?_; clear  hK8 K8
    apply wp_seq_k; intro K9 hK9
    apply wp_seq_k; intro K10 hK10
    by_cases hct : 1 ≤ i.ct ∧ i.ct ≤ 1099511627776
    · refine wp_region_lit ?_
      refine vc_y hF rfl rfl (by decide) _ (y_field rfl Tryd.underlying54 rfl sz25_s14 (by decide) rfl (rfl : (⟨_, 0 + _, none⟩ : Addr) = ⟨_, 32, none⟩)) (fun a hF => ?_)
      refine vc_y hF rfl rfl (by decide) _ (y_ldRow rfl hA14.q rfl 0 rfl rw25_s14 (by rw [hil]; decide) (by exact Itm.c_ent hiK)) (fun a hF => ?_)
      refine vc_op rfl (fun K hK => ws_call hF rfl (by decide) cl56_s14 rfl rfl ?_)
      with_reducible refine (sp_counted w0 _ ([row b10 54 i.cells] :: [row b4 45 [top, .slice none 0 0]] :: Y :: [row b1 45 [.pointer none, .slice none 0 0]] :: R) i.ct i.ch hA14 ).mono ?_
      rintro e' w15 ⟨rfl, hA16⟩
      refine ⟨_, rfl, fun a hF => hK _ _ ?_⟩
      clear hK K
      replace hA16 : Hp w0 ([row b10 54 i.cells] :: [row b4 45 [top, .slice none 0 0]] :: Y :: [row b1 45 [.pointer none, .slice none 0 0]] :: R) w15 := hA16
      rw [decide_eq_true hct] at hF
      refine vc_y hF rfl rfl (by decide) _ (y_not rfl rfl rfl) (fun a hF => ?_)
      refine vc_nil ?_
      refine hK10 _ _ ?_; clear  hK10 K10
      refine vc_false hF rfl ?_
      have hok : okC i = true := decide_eq_true hct
      have hFn := hF
      rcases hB with ⟨rfl, rfl, rfl⟩ | ⟨t, g, rfl, hg, rfl, hTO⟩
      · have hF := hFn
        apply wp_skip
        refine hK9 _ _ ?_; clear  hK9 K9
        apply wp_seq_k; intro K11 hK11
        apply wp_seq_k; intro K12 hK12
        refine wp_region_lit ?_
        refine vc_y hF rfl rfl (by decide) _ (y_field rfl Tryd.underlying45 rfl sz43_s14 (by decide) rfl (rfl : (⟨_, 0 + _, none⟩ : Addr) = ⟨_, 0, none⟩)) (fun a hF => ?_)
        refine vc_y hF rfl rfl (by decide) _ (y_ld rfl hA16.q rfl 1 rfl rfl nr43_s14) (fun a hF => ?_)
        refine vc_y hF rfl rfl (by decide) _ (y_field rfl Tryd.underlying54 rfl sz23_s14 (by decide) rfl (rfl : (⟨_, 0 + _, none⟩ : Addr) = ⟨_, 0, none⟩)) (fun a hF => ?_)
        refine vc_y hF rfl rfl (by decide) _ (y_ldRow rfl hA16.q rfl 0 rfl rw23_s14 (by rw [hil]; decide) (show List.take 32 (List.drop 0 i.cells) = dc i.k from Itm.c_key hiK)) (fun a hF => ?_)
        refine vc_op rfl (fun K hK => ws_call hF rfl (by decide) cl64_s14 rfl rfl ?_)
        with_reducible refine (rt_find0 w0 _ ([row b10 54 i.cells] :: [row b4 45 [.pointer none, .slice none 0 0]] :: ([] : Seg) :: [row b1 45 [.pointer none, .slice none 0 0]] :: R) i.k hA16 ).mono ?_
        rintro e' w17 ⟨rfl, hA18⟩
        refine ⟨_, rfl, fun a hF => hK _ _ ?_⟩
        clear hK K
        replace hA18 : Hp w0 ([row b10 54 i.cells] :: [row b4 45 [.pointer none, .slice none 0 0]] :: ([] : Seg) :: [row b1 45 [.pointer none, .slice none 0 0]] :: R) w17 := hA18
        refine vc_y hF rfl rfl (by decide) _ (y_neNilT rfl (by kernel_rfl) rfl rfl) (fun a hF => ?_)
        refine vc_nil ?_
        refine hK12 _ _ ?_; clear  hK12 K12
        refine vc_false hF rfl ?_
        apply wp_skip
        refine hK11 _ _ ?_; clear  hK11 K11
        refine wp_region_lit ?_
        refine vc_y hF rfl rfl (by decide) _ (y_field rfl Tryd.underlying45 rfl sz43_s14 (by decide) rfl (rfl : (⟨_, 0 + _, none⟩ : Addr) = ⟨_, 0, none⟩)) (fun a hF => ?_)
        refine vc_y hF rfl rfl (by decide) _ (y_ld rfl hA18.q rfl 1 rfl rfl nr43_s14) (fun a hF => ?_)
        refine vc_y hF rfl rfl (by decide) _ (y_field rfl Tryd.underlying54 rfl sz23_s14 (by decide) rfl (rfl : (⟨_, 0 + _, none⟩ : Addr) = ⟨_, 0, none⟩)) (fun a hF => ?_)
        refine vc_y hF rfl rfl (by decide) _ (y_ldRow rfl hA18.q rfl 0 rfl rw23_s14 (by rw [hil]; decide) (show List.take 32 (List.drop 0 i.cells) = dc i.k from Itm.c_key hiK)) (fun a hF => ?_)
        refine vc_y hF rfl rfl (by decide) _ (y_field rfl Tryd.underlying54 rfl sz25_s14 (by decide) rfl (rfl : (⟨_, 0 + _, none⟩ : Addr) = ⟨_, 32, none⟩)) (fun a hF => ?_)
        refine vc_y hF rfl rfl (by decide) _ (y_ldRow rfl hA18.q rfl 0 rfl rw25_s14 (by rw [hil]; decide) (by exact Itm.c_ent hiK)) (fun a hF => ?_)
        refine vc_op rfl (fun K hK => ws_call hF rfl (by decide) cl57_s14 rfl rfl ?_)
        with_reducible refine (rx_put0 w0 _ ([row b10 54 i.cells] :: [row b4 45 [.pointer none, .slice none 0 0]] :: ([] : Seg) :: [row b1 45 [.pointer none, .slice none 0 0]] :: R) i hiK _ hA18 ).mono ?_
        rintro e' w19 ⟨g2, rfl, hA20⟩
        refine ⟨_, rfl, fun a hF => hK _ _ ?_⟩
        clear hK K
        replace hA20 : Hp w0 ([row g2 107 (leafC i)] :: [row b10 54 i.cells] :: [row b4 45 [.pointer none, .slice none 0 0]] :: ([] : Seg) :: [row b1 45 [.pointer none, .slice none 0 0]] :: R) w19 := hA20
        refine vc_y hF rfl rfl (by decide) _ (y_field rfl Tryd.underlying45 rfl sz43_s14 (by decide) rfl (rfl : (⟨_, 0 + _, none⟩ : Addr) = ⟨_, 0, none⟩)) (fun a hF => ?_)
        refine vc_op rfl (fun K hK => hs_store1 hF rfl rfl hA20 rfl rfl 2 rfl (by simp) rfl sz43_s14 (fun w21 hA22 => hK _ _ ?_))
        clear hK K
        replace hA22 : Hp w0 ([row g2 107 (leafC i)] :: [row b10 54 i.cells] :: [row b4 45 [.pointer (some ⟨g2, 0, none⟩), .slice none 0 0]] :: ([] : Seg) :: [row b1 45 [.pointer none, .slice none 0 0]] :: R) w21 := hA22
        refine vc_nil ?_
        refine hK7 _ _ ?_; clear  hK7 K7
        refine wp_region_lit ?_
        refine vc_y hF rfl rfl (by decide) _ (y_add rfl rfl rfl (IntWalk.i64_in _ (by omega))) (fun a hF => ?_)
        refine vc_y hF rfl rfl (by decide) _ (y_move rfl rfl) (fun a hF => ?_)
        refine vc_nil ?_
        have hA23 : Hp w0 ([row b4 45 [.pointer (some ⟨g2, 0, none⟩), .slice none 0 0]] :: [row g2 107 (leafC i)] :: [row b1 45 [.pointer none, .slice none 0 0]] :: R) w21 := Hp.sel [[row g2 107 (leafC i)], [row b10 54 i.cells], [row b4 45 [.pointer (some ⟨g2, 0, none⟩), .slice none 0 0]], ([] : Seg), [row b1 45 [.pointer none, .slice none 0 0]]] R [2, 0, 4] [1, 3] hA22 rfl
        exact ⟨n + 1, by omega, insL i [], _, [row g2 107 (leafC i)], by omega, (by rw [hbl, hdr]; show (if okC i = true then (if hasK [] i.k = true then _ else _) else _) = _; rw [if_pos hok]; rfl), (by show 1 ≤ n + 1; omega), .inr ⟨.leaf i, g2, rfl, hiK, rfl, rfl⟩, hF.keep [10, 8, 9, 2, 4] rfl, hA23⟩
      · have hF := hFn
        have hTrY : Tr w0 [Y] false t g := hTO.tr (List.mem_singleton.2 rfl)
        by_cases hf : t.find i.k = none
        · apply wp_skip
          refine hK9 _ _ ?_; clear  hK9 K9
          apply wp_seq_k; intro K13 hK13
          apply wp_seq_k; intro K14 hK14
          refine wp_region_lit ?_
          refine vc_y hF rfl rfl (by decide) _ (y_field rfl Tryd.underlying45 rfl sz43_s14 (by decide) rfl (rfl : (⟨_, 0 + _, none⟩ : Addr) = ⟨_, 0, none⟩)) (fun a hF => ?_)
          refine vc_y hF rfl rfl (by decide) _ (y_ld rfl hA16.q rfl 1 rfl rfl nr43_s14) (fun a hF => ?_)
          refine vc_y hF rfl rfl (by decide) _ (y_field rfl Tryd.underlying54 rfl sz23_s14 (by decide) rfl (rfl : (⟨_, 0 + _, none⟩ : Addr) = ⟨_, 0, none⟩)) (fun a hF => ?_)
          refine vc_y hF rfl rfl (by decide) _ (y_ldRow rfl hA16.q rfl 0 rfl rw23_s14 (by rw [hil]; decide) (show List.take 32 (List.drop 0 i.cells) = dc i.k from Itm.c_key hiK)) (fun a hF => ?_)
          refine vc_op rfl (fun K hK => ws_call hF rfl (by decide) cl64_s14 rfl rfl ?_)
          with_reducible refine (rt_find_no w0 _ ([row b10 54 i.cells] :: [row b4 45 [.pointer (some ⟨g, 0, none⟩), .slice none 0 0]] :: Y :: [row b1 45 [.pointer none, .slice none 0 0]] :: R) [Y] (sub1 (List.mem_cons_of_mem _ (List.mem_cons_of_mem _ ((List.mem_cons_self ..))))) t hg g false i.k hiK.k hTrY hf hA16 ).mono ?_
          rintro e' w24 ⟨rfl, hA25⟩
          refine ⟨_, rfl, fun a hF => hK _ _ ?_⟩
          clear hK K
          replace hA25 : Hp w0 ([row b10 54 i.cells] :: [row b4 45 [.pointer (some ⟨g, 0, none⟩), .slice none 0 0]] :: Y :: [row b1 45 [.pointer none, .slice none 0 0]] :: R) w24 := hA25
          refine vc_y hF rfl rfl (by decide) _ (y_neNilT rfl (by kernel_rfl) rfl rfl) (fun a hF => ?_)
          refine vc_nil ?_
          refine hK14 _ _ ?_; clear  hK14 K14
          refine vc_false hF rfl ?_
          apply wp_skip
          refine hK13 _ _ ?_; clear  hK13 K13
          refine wp_region_lit ?_
          refine vc_y hF rfl rfl (by decide) _ (y_field rfl Tryd.underlying45 rfl sz43_s14 (by decide) rfl (rfl : (⟨_, 0 + _, none⟩ : Addr) = ⟨_, 0, none⟩)) (fun a hF => ?_)
          refine vc_y hF rfl rfl (by decide) _ (y_ld rfl hA25.q rfl 1 rfl rfl nr43_s14) (fun a hF => ?_)
          refine vc_y hF rfl rfl (by decide) _ (y_field rfl Tryd.underlying54 rfl sz23_s14 (by decide) rfl (rfl : (⟨_, 0 + _, none⟩ : Addr) = ⟨_, 0, none⟩)) (fun a hF => ?_)
          refine vc_y hF rfl rfl (by decide) _ (y_ldRow rfl hA25.q rfl 0 rfl rw23_s14 (by rw [hil]; decide) (show List.take 32 (List.drop 0 i.cells) = dc i.k from Itm.c_key hiK)) (fun a hF => ?_)
          refine vc_y hF rfl rfl (by decide) _ (y_field rfl Tryd.underlying54 rfl sz25_s14 (by decide) rfl (rfl : (⟨_, 0 + _, none⟩ : Addr) = ⟨_, 32, none⟩)) (fun a hF => ?_)
          refine vc_y hF rfl rfl (by decide) _ (y_ldRow rfl hA25.q rfl 0 rfl rw25_s14 (by rw [hil]; decide) (by exact Itm.c_ent hiK)) (fun a hF => ?_)
          have hA26 : Hp w0 (Y :: [row b10 54 i.cells] :: [row b4 45 [.pointer (some ⟨g, 0, none⟩), .slice none 0 0]] :: [row b1 45 [.pointer none, .slice none 0 0]] :: R) w24 := Hp.ord [[row b10 54 i.cells], [row b4 45 [.pointer (some ⟨g, 0, none⟩), .slice none 0 0]], Y, [row b1 45 [.pointer none, .slice none 0 0]]] R [2, 0, 1, 3] hA25 rfl
          refine vc_op rfl (fun K hK => ws_call hF rfl (by decide) cl57_s14 rfl rfl ?_)
          with_reducible refine (rt_putN w0 i hiK t hg (by rw [t.size_eq]; omega) _ ([row b10 54 i.cells] :: [row b4 45 [.pointer (some ⟨g, 0, none⟩), .slice none 0 0]] :: [row b1 45 [.pointer none, .slice none 0 0]] :: R) Y g hTO hA26 ).mono ?_
          rintro e' w27 ⟨g2, Y2, rfl, h2, hA28⟩
          refine ⟨_, rfl, fun a hF => hK _ _ ?_⟩
          clear hK K
          replace hA28 : Hp w0 (Y2 :: [row b10 54 i.cells] :: [row b4 45 [.pointer (some ⟨g, 0, none⟩), .slice none 0 0]] :: [row b1 45 [.pointer none, .slice none 0 0]] :: R) w27 := hA28
          refine vc_y hF rfl rfl (by decide) _ (y_field rfl Tryd.underlying45 rfl sz43_s14 (by decide) rfl (rfl : (⟨_, 0 + _, none⟩ : Addr) = ⟨_, 0, none⟩)) (fun a hF => ?_)
          refine vc_op rfl (fun K hK => hs_store1 hF rfl rfl hA28 rfl rfl 2 rfl (by simp) rfl sz43_s14 (fun w29 hA30 => hK _ _ ?_))
          clear hK K
          replace hA30 : Hp w0 (Y2 :: [row b10 54 i.cells] :: [row b4 45 [.pointer (some ⟨g2, 0, none⟩), .slice none 0 0]] :: [row b1 45 [.pointer none, .slice none 0 0]] :: R) w29 := hA30
          refine vc_nil ?_
          refine hK7 _ _ ?_; clear  hK7 K7
          refine wp_region_lit ?_
          refine vc_y hF rfl rfl (by decide) _ (y_add rfl rfl rfl (IntWalk.i64_in _ (by omega))) (fun a hF => ?_)
          refine vc_y hF rfl rfl (by decide) _ (y_move rfl rfl) (fun a hF => ?_)
          refine vc_nil ?_
          have hle := insL_len (i := i) t.items
          have hA31 : Hp w0 ([row b4 45 [.pointer (some ⟨g2, 0, none⟩), .slice none 0 0]] :: Y2 :: [row b1 45 [.pointer none, .slice none 0 0]] :: R) w29 := Hp.sel [Y2, [row b10 54 i.cells], [row b4 45 [.pointer (some ⟨g2, 0, none⟩), .slice none 0 0]], [row b1 45 [.pointer none, .slice none 0 0]]] R [2, 0, 3] [1] hA30 rfl
          exact ⟨n + 1, by omega, insL i t.items, _, Y2, by omega, (by rw [hbl, hdr]; show (if okC i = true then (if hasK t.items i.k = true then _ else _) else _) = _; rw [if_pos hok, if_neg (by rw [← getL_has, Rx.getL_eq hg, hf]; exact Bool.false_ne_true)]), by omega, .inr ⟨t.ins i, g2, (Rx.ins_good hiK hg).2.1, (Rx.ins_good hiK hg).1, rfl, h2⟩, hF.keep [10, 8, 9, 2, 4] rfl, hA31⟩
        · obtain ⟨j, hf⟩ := Option.ne_none_iff_exists'.1 hf
          apply wp_skip
          refine hK9 _ _ ?_; clear  hK9 K9
          apply wp_seq_k; intro K15 hK15
          apply wp_seq_k; intro K16 hK16
          refine wp_region_lit ?_
          refine vc_y hF rfl rfl (by decide) _ (y_field rfl Tryd.underlying45 rfl sz43_s14 (by decide) rfl (rfl : (⟨_, 0 + _, none⟩ : Addr) = ⟨_, 0, none⟩)) (fun a hF => ?_)
          refine vc_y hF rfl rfl (by decide) _ (y_ld rfl hA16.q rfl 1 rfl rfl nr43_s14) (fun a hF => ?_)
          refine vc_y hF rfl rfl (by decide) _ (y_field rfl Tryd.underlying54 rfl sz23_s14 (by decide) rfl (rfl : (⟨_, 0 + _, none⟩ : Addr) = ⟨_, 0, none⟩)) (fun a hF => ?_)
          refine vc_y hF rfl rfl (by decide) _ (y_ldRow rfl hA16.q rfl 0 rfl rw23_s14 (by rw [hil]; decide) (show List.take 32 (List.drop 0 i.cells) = dc i.k from Itm.c_key hiK)) (fun a hF => ?_)
          refine vc_op rfl (fun K hK => ws_call hF rfl (by decide) cl64_s14 rfl rfl ?_)
          with_reducible refine (rt_find_yes w0 _ ([row b10 54 i.cells] :: [row b4 45 [.pointer (some ⟨g, 0, none⟩), .slice none 0 0]] :: Y :: [row b1 45 [.pointer none, .slice none 0 0]] :: R) [Y] (sub1 (List.mem_cons_of_mem _ (List.mem_cons_of_mem _ ((List.mem_cons_self ..))))) t hg g false i.k hiK.k hTrY j hf hA16 ).mono ?_
          rintro e' w32 ⟨gf, rfl, _, hA33⟩
          refine ⟨_, rfl, fun a hF => hK _ _ ?_⟩
          clear hK K
          replace hA33 : Hp w0 ([row b10 54 i.cells] :: [row b4 45 [.pointer (some ⟨g, 0, none⟩), .slice none 0 0]] :: Y :: [row b1 45 [.pointer none, .slice none 0 0]] :: R) w32 := hA33
          refine vc_y hF rfl rfl (by decide) _ (y_neNil rfl (by kernel_rfl) rfl rfl) (fun a hF => ?_)
          refine vc_nil ?_
          refine hK16 _ _ ?_; clear  hK16 K16
          refine vc_true hF rfl ?_
          apply wp_seq_k; intro K17 hK17
          refine wp_region_lit ?_
          refine vc_y hF rfl rfl (by decide) _ (y_build (qs := #[]) rfl rfl rt_tree0) (fun a hF => ?_)
          refine vc_op rfl (fun K hK => hs_storeAll (new := [.pointer none, .slice none 0 0]) hF rfl rfl hA33 rfl rfl 3 rfl rfl (by simp [Value.oneCell']) sz45_s14 (fun w34 hA35 => hK _ _ ?_))
          clear hK K
          replace hA35 : Hp w0 ([row b10 54 i.cells] :: [row b4 45 [.pointer (some ⟨g, 0, none⟩), .slice none 0 0]] :: Y :: [row b1 45 [.pointer none, .slice none 0 0]] :: R) w34 := hA35
          refine vc_y hF rfl rfl (by decide) _ (y_assign rfl rfl) (fun a hF => ?_)
          refine vc_nil ?_
          refine hK17 _ _ ?_; clear  hK17 K17
          apply wp_ret
          simp only [Exit.then, Exit.inBlock]
          refine vc_retCT hF Tryd.results30 hA35.q rfl rfl 3 rfl rw45_s14 ?_
          have hA36 : Hp w0 (Y :: R) w34 := Hp.sel [[row b10 54 i.cells], [row b4 45 [.pointer (some ⟨g, 0, none⟩), .slice none 0 0]], Y, [row b1 45 [.pointer none, .slice none 0 0]]] R [2] [0, 1, 3] hA35 rfl
          have hre : bldS [] l = (92, []) := by rw [hbl, hdr]; unfold bldS; rw [if_pos hok, if_pos (by rw [← getL_has, Rx.getL_eq hg, hf]; rfl)]
          rw [hre]
          exact ⟨_, _, Y, rfl, .inl ⟨rfl, rfl, rfl⟩, hA36⟩
    · refine wp_region_lit ?_
      refine vc_y hF rfl rfl (by decide) _ (y_field rfl Tryd.underlying54 rfl sz25_s14 (by decide) rfl (rfl : (⟨_, 0 + _, none⟩ : Addr) = ⟨_, 32, none⟩)) (fun a hF => ?_)
      refine vc_y hF rfl rfl (by decide) _ (y_ldRow rfl hA14.q rfl 0 rfl rw25_s14 (by rw [hil]; decide) (by exact Itm.c_ent hiK)) (fun a hF => ?_)
      refine vc_op rfl (fun K hK => ws_call hF rfl (by decide) cl56_s14 rfl rfl ?_)
      with_reducible refine (sp_counted w0 _ ([row b10 54 i.cells] :: [row b4 45 [top, .slice none 0 0]] :: Y :: [row b1 45 [.pointer none, .slice none 0 0]] :: R) i.ct i.ch hA14 ).mono ?_
      rintro e' w37 ⟨rfl, hA38⟩
      refine ⟨_, rfl, fun a hF => hK _ _ ?_⟩
      clear hK K
      replace hA38 : Hp w0 ([row b10 54 i.cells] :: [row b4 45 [top, .slice none 0 0]] :: Y :: [row b1 45 [.pointer none, .slice none 0 0]] :: R) w37 := hA38
      rw [decide_eq_false hct] at hF
      refine vc_y hF rfl rfl (by decide) _ (y_not rfl rfl rfl) (fun a hF => ?_)
      refine vc_nil ?_
      refine hK10 _ _ ?_; clear  hK10 K10
      refine vc_true hF rfl ?_
      apply wp_seq_k; intro K18 hK18
      refine wp_region_lit ?_
      refine vc_y hF rfl rfl (by decide) _ (y_build (qs := #[]) rfl rfl rt_tree0) (fun a hF => ?_)
      refine vc_op rfl (fun K hK => hs_storeAll (new := [.pointer none, .slice none 0 0]) hF rfl rfl hA38 rfl rfl 3 rfl rfl (by simp [Value.oneCell']) sz45_s14 (fun w39 hA40 => hK _ _ ?_))
      clear hK K
      replace hA40 : Hp w0 ([row b10 54 i.cells] :: [row b4 45 [top, .slice none 0 0]] :: Y :: [row b1 45 [.pointer none, .slice none 0 0]] :: R) w39 := hA40
      refine vc_y hF rfl rfl (by decide) _ (y_assign rfl rfl) (fun a hF => ?_)
      refine vc_nil ?_
      refine hK18 _ _ ?_; clear  hK18 K18
      apply wp_ret
      simp only [Exit.then, Exit.inBlock]
      refine vc_retCT hF Tryd.results30 hA40.q rfl rfl 3 rfl rw45_s14 ?_
      have hA41 : Hp w0 (Y :: R) w39 := Hp.sel [[row b10 54 i.cells], [row b4 45 [top, .slice none 0 0]], Y, [row b1 45 [.pointer none, .slice none 0 0]]] R [2] [0, 1, 3] hA40 rfl
      have hre : bldS [] l = (8, []) := by rw [hbl, hdr]; unfold bldS; rw [if_neg (by unfold okC; rw [decide_eq_false hct]; exact Bool.false_ne_true)]
      rw [hre]
      exact ⟨_, _, Y, rfl, .inl ⟨rfl, rfl, rfl⟩, hA41⟩
  · refine vc_falseB hF rfl (lss_f (by omega)) ?_
    obtain rfl : n = l.length := by omega
    rw [List.drop_length] at hbl
    have hre : bldS [] l = (0, acc) := hbl
    have hFn := hF
    rcases hB with ⟨rfl, rfl, rfl⟩ | ⟨t, g, rfl, hg, rfl, hTO⟩
    · have hF := hFn
      apply wp_exit
      refine hK3 _ _ ?_; clear hK6 K6 hK3 K3
      apply wp_seq_k; intro K19 hK19
      apply wp_seq_k; intro K20 hK20
      refine wp_region_lit ?_
      refine vc_y hF rfl rfl (by decide) _ (y_field rfl Tryd.underlying45 rfl sz43_s14 (by decide) rfl (rfl : (⟨_, 0 + _, none⟩ : Addr) = ⟨_, 0, none⟩)) (fun a hF => ?_)
      refine vc_y hF rfl rfl (by decide) _ (y_ld rfl hA8.q rfl 0 rfl rfl nr43_s14) (fun a hF => ?_)
      refine vc_y hF rfl rfl (by decide) _ (y_neNilT rfl (by kernel_rfl) rfl rfl) (fun a hF => ?_)
      refine vc_nil ?_
      refine hK20 _ _ ?_; clear  hK20 K20
      refine vc_false hF rfl ?_
      apply wp_skip
      refine hK19 _ _ ?_; clear  hK19 K19
      apply wp_seq_k; intro K21 hK21
      refine wp_region_lit ?_
      refine vc_y hF rfl rfl (by decide) _ (y_ldRow (new := [.pointer none, .slice none 0 0]) rfl hA8.q rfl 0 rfl rw45_s14 (Nat.le_of_ble_eq_true rfl) rfl) (fun a hF => ?_)
      refine vc_op rfl (fun K hK => hs_storeAll (new := [.pointer none, .slice none 0 0]) hF rfl rfl hA8 rfl rfl 2 rfl rfl (by simp [Value.oneCell']) sz45_s14 (fun w42 hA43 => hK _ _ ?_))
      clear hK K
      replace hA43 : Hp w0 ([row b4 45 [.pointer none, .slice none 0 0]] :: ([] : Seg) :: [row b1 45 [.pointer none, .slice none 0 0]] :: R) w42 := hA43
      refine vc_y hF rfl rfl (by decide) _ (y_assign rfl rfl) (fun a hF => ?_)
      refine vc_nil ?_
      refine hK21 _ _ ?_; clear  hK21 K21
      apply wp_ret
      refine vc_retCT hF Tryd.results30 hA43.q rfl rfl 2 rfl rw45_s14 ?_
      have hA44 : Hp w0 (([] : Seg) :: R) w42 := Hp.sel [[row b4 45 [.pointer none, .slice none 0 0]], ([] : Seg), [row b1 45 [.pointer none, .slice none 0 0]]] R [1] [0, 2] hA43 rfl
      rw [hre]
      exact ⟨_, _, [], rfl, .inl ⟨rfl, rfl, rfl⟩, hA44⟩
    · have hF := hFn
      apply wp_exit
      refine hK3 _ _ ?_; clear hK6 K6 hK3 K3
      apply wp_seq_k; intro K22 hK22
      apply wp_seq_k; intro K23 hK23
      refine wp_region_lit ?_
      refine vc_y hF rfl rfl (by decide) _ (y_field rfl Tryd.underlying45 rfl sz43_s14 (by decide) rfl (rfl : (⟨_, 0 + _, none⟩ : Addr) = ⟨_, 0, none⟩)) (fun a hF => ?_)
      refine vc_y hF rfl rfl (by decide) _ (y_ld rfl hA8.q rfl 0 rfl rfl nr43_s14) (fun a hF => ?_)
      refine vc_y hF rfl rfl (by decide) _ (y_neNil rfl (by kernel_rfl) rfl rfl) (fun a hF => ?_)
      refine vc_nil ?_
      refine hK23 _ _ ?_; clear  hK23 K23
      refine vc_true hF rfl ?_
      apply wp_seq_k; intro K24 hK24
      refine wp_region_lit ?_
      refine vc_op rfl (fun K hK => ws_call hF rfl (by decide) cl54_s14 rfl rfl ?_)
      with_reducible refine (rt_atN w0 _ ([row b4 45 [.pointer (some ⟨g, 0, none⟩), .slice none 0 0]] :: Y :: [row b1 45 [.pointer none, .slice none 0 0]] :: R) 32 hT hA8 ).mono ?_
      rintro e' w45 ⟨gs, SX, rfl, hSm2, hA46⟩
      refine ⟨_, rfl, fun a hF => hK _ _ ?_⟩
      clear hK K
      replace hA46 : Hp w0 (SX :: [row b4 45 [.pointer (some ⟨g, 0, none⟩), .slice none 0 0]] :: Y :: [row b1 45 [.pointer none, .slice none 0 0]] :: R) w45 := hA46
      rw [show min (max (32 : Int) 1) 32 = 32 from rfl] at hSm2
      have hSm := hSm2.sm
      obtain ⟨AE, cE, wb, hs1, hs2, hs3, hcE⟩ := id hSm2
      obtain ⟨be_, qe, hAE, _⟩ := hs3.ne (i := 0) (by rw [digs_len _ _ (fun i _ => emptyL_length _ _)]; decide)
      refine vc_y hF rfl rfl (by decide) _ (y_assign rfl rfl) (fun a hF => ?_)
      refine vc_nil ?_
      refine hK24 _ _ ?_; clear  hK24 K24
      apply wp_seq_k; intro K25 hK25
      refine wp_region_lit ?_
      refine vc_y hF rfl rfl (by decide) _ (y_move rfl rfl) (fun a hF => ?_)
      refine vc_y hF rfl rfl (by decide) _ (y_nilCheck rfl rfl) (fun a hF => ?_)
      refine vc_y hF rfl rfl (by decide) _ (y_field rfl Tryd.underlying102 rfl sz26_s14 (by decide) rfl (rfl : (⟨_, 0 + _, none⟩ : Addr) = ⟨_, 1, none⟩)) (fun a hF => ?_)
      refine vc_y hF rfl rfl (by decide) _ (y_ldC rfl (Hq.sub hA46.q (sub1 ((List.mem_cons_self ..)))) rfl hs1 1 (by simp) rfl rfl nr26_s14) (fun a hF => ?_)
      refine vc_y hF rfl rfl (by decide) _ (y_field rfl Tryd.underlying45 rfl sz26_s14 (by decide) rfl (rfl : (⟨_, 0 + _, none⟩ : Addr) = ⟨_, 1, none⟩)) (fun a hF => ?_)
      refine vc_op rfl (fun K hK => hs_store1 hF rfl rfl hA46 rfl rfl 1 rfl (by simp) rfl sz26_s14 (fun w47 hA48 => hK _ _ ?_))
      clear hK K
      replace hA48 : Hp w0 (SX :: [row b4 45 [.pointer (some ⟨g, 0, none⟩), .slice AE 257 cE]] :: Y :: [row b1 45 [.pointer none, .slice none 0 0]] :: R) w47 := hA48
      refine vc_nil ?_
      refine hK25 _ _ ?_; clear  hK25 K25
      refine wp_region_lit ?_
      refine vc_y hF rfl rfl (by decide) _ (y_field rfl Tryd.underlying45 rfl sz43_s14 (by decide) rfl (rfl : (⟨_, 0 + _, none⟩ : Addr) = ⟨_, 0, none⟩)) (fun a hF => ?_)
      refine vc_y hF rfl rfl (by decide) _ (y_ld rfl hA48.q rfl 1 rfl rfl nr43_s14) (fun a hF => ?_)
      refine vc_y hF rfl rfl (by decide) _ (y_move rfl rfl) (fun a hF => ?_)
      have hGS : [SX] ⊆ (SX :: [row b4 45 [.pointer (some ⟨g, 0, none⟩), .slice AE 257 cE]] :: [row b1 45 [.pointer none, .slice none 0 0]] :: R) := sub1 ((List.mem_cons_self ..))
      have hA49 : Hp w0 (Y :: SX :: [row b4 45 [.pointer (some ⟨g, 0, none⟩), .slice AE 257 cE]] :: [row b1 45 [.pointer none, .slice none 0 0]] :: R) w47 := Hp.ord [SX, [row b4 45 [.pointer (some ⟨g, 0, none⟩), .slice AE 257 cE]], Y, [row b1 45 [.pointer none, .slice none 0 0]]] R [2, 0, 1, 3] hA48 rfl
      refine vc_op rfl (fun K hK => ws_call hF rfl (by decide) cl65_s14 rfl rfl ?_)
      with_reducible refine (rt_settle w0 hT t hg _ (SX :: [row b4 45 [.pointer (some ⟨g, 0, none⟩), .slice AE 257 cE]] :: [row b1 45 [.pointer none, .slice none 0 0]] :: R) [SX] hGS Y gs g hSm hTO hA49 ).mono ?_
      rintro e' w50 ⟨rfl, Y2, h2, hA51⟩
      refine ⟨_, rfl, fun a hF => hK _ _ ?_⟩
      clear hK K
      replace hA51 : Hp w0 (Y2 :: SX :: [row b4 45 [.pointer (some ⟨g, 0, none⟩), .slice AE 257 cE]] :: [row b1 45 [.pointer none, .slice none 0 0]] :: R) w50 := hA51
      refine vc_nil ?_
      refine hK22 _ _ ?_; clear  hK22 K22
      apply wp_seq_k; intro K26 hK26
      refine wp_region_lit ?_
      refine vc_y hF rfl rfl (by decide) _ (y_ldRow (new := [.pointer (some ⟨g, 0, none⟩), .slice AE 257 cE]) rfl hA51.q rfl 2 rfl rw45_s14 (Nat.le_of_ble_eq_true rfl) rfl) (fun a hF => ?_)
      refine vc_op rfl (fun K hK => hs_storeAll (new := [.pointer (some ⟨g, 0, none⟩), .slice AE 257 cE]) hF rfl rfl hA51 rfl rfl 3 rfl rfl (by simp [Value.oneCell']) sz45_s14 (fun w52 hA53 => hK _ _ ?_))
      clear hK K
      replace hA53 : Hp w0 (Y2 :: SX :: [row b4 45 [.pointer (some ⟨g, 0, none⟩), .slice AE 257 cE]] :: [row b1 45 [.pointer (some ⟨g, 0, none⟩), .slice AE 257 cE]] :: R) w52 := hA53
      refine vc_y hF rfl rfl (by decide) _ (y_assign rfl rfl) (fun a hF => ?_)
      refine vc_nil ?_
      refine hK26 _ _ ?_; clear  hK26 K26
      apply wp_ret
      refine vc_retCT hF Tryd.results30 hA53.q rfl rfl 3 rfl rw45_s14 ?_
      have hA54 : Hp w0 (Y2 :: SX :: R) w52 := Hp.sel [Y2, SX, [row b4 45 [.pointer (some ⟨g, 0, none⟩), .slice AE 257 cE]], [row b1 45 [.pointer (some ⟨g, 0, none⟩), .slice AE 257 cE]]] R [0, 1] [2, 3] hA53 rfl
      have hup : [SX].flatten ⊆ ((Y2 ++ SX) :: G0).flatten := fun r hr => by
        rw [List.flatten_cons, List.flatten_nil, List.append_nil] at hr
        rw [List.flatten_cons]
        exact List.mem_append_left _ (List.mem_append_right _ hr)
      have hup2 : [Y2].flatten ⊆ ((Y2 ++ SX) :: G0).flatten := fun r hr => by
        rw [List.flatten_cons, List.flatten_nil, List.append_nil] at hr
        rw [List.flatten_cons]
        exact List.mem_append_left _ (List.mem_append_left _ hr)
      rw [hre]
      exact ⟨_, .slice AE 257 cE, Y2 ++ SX, rfl, .inr ⟨t, g, ⟨be_, qe, none⟩, cE, rfl, hg, rfl, by rw [hAE], (h2.tr (w0 := w0) (R := [Y2]) (List.mem_singleton.2 rfl)).monoF hup2, by rw [← hAE]; exact hs3.monoF hup, hcE⟩, Hp.join hA54⟩
end Go.Proofs.YtpomngkcfbnjoaaDoor
