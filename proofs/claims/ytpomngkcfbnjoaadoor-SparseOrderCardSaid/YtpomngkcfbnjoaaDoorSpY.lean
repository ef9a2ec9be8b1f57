/- A sparse tree: what its functions tell. -/
import Derived.Test.YtpomngkcfbnjoaaDoorSpX
import Derived.Test.YtpomngkcfbnjoaaDoorSpW
import Derived.Test.YtpomngkcfbnjoaaDoorLawNumbers
namespace Go.Proofs.YtpomngkcfbnjoaaDoor
open Go.RowKit Go.Dk

theorem rt_elemI : elemInfo Tryd.prog 54 65 72 := elemInfo_of (z := .agg (dc (List.replicate 32 0) ++ (.int .i64 0 :: dc (List.replicate 32 0))).toArray) (by kernel_rfl) (by kernel_rfl)
theorem rt_ent0 (w : World) : (Instr.build 25 #[]).run Tryd.prog w = .ok (.agg (.int .i64 0 :: dc (List.replicate 32 0)).toArray) w := by kernel_rfl
theorem rt_tree0 (w : World) : (Instr.build 45 #[]).run Tryd.prog w = .ok (.agg ([.pointer none, .slice none 0 0] : List Value).toArray) w := by kernel_rfl
theorem ent_one (c : Int) (l : List UInt8) : ∀ v ∈ (Value.int .i64 c :: dc l : List Value), v.oneCell' = true := fun v hv => by
  rcases List.mem_cons.1 hv with rfl | h
  · rfl
  · exact dc_one _ v h
theorem Itm.one (i : Itm) : ∀ v ∈ i.cells, v.oneCell' = true := fun v hv => by
  unfold Itm.cells at hv
  rcases List.mem_append.1 hv with h | h
  · exact dc_one _ v h
  · exact ent_one _ _ v h
/-- .. its empty rows' slice may be cut at 256 -/
def Sm2 (w0 : World) (R : List Seg) (f : FuncId) (g : Nat) (width : Int) : Prop := ∃ A c wb, Rw w0 R g [.int .i64 width, .slice A 257 c, .func (.func f) #[] #[.pointer (some ⟨wb, 0, none⟩)]] ∧ Rw w0 R wb [.int .i64 width] ∧ Rc w0 R A (digs (emptyL width) 257) ∧ 257 ≤ c
theorem Sm2.sm {w0 : World} {R : List Seg} {f : FuncId} {g : Nat} {width : Int} (h : Sm2 w0 R f g width) : Sm w0 R f g width := by
  obtain ⟨A, c, wb, h1, h2, h3, _⟩ := h
  exact ⟨A, c, wb, h1, h2, h3⟩
theorem Sm2.mono {w0 : World} {R S : List Seg} {f : FuncId} {g : Nat} {width : Int} (h : Sm2 w0 R f g width) (hs : R ⊆ S) : Sm2 w0 S f g width := by
  obtain ⟨A, c, wb, h1, h2, h3, h4⟩ := h
  exact ⟨A, c, wb, h1.mono hs, h2.mono hs, h3.mono hs, h4⟩
theorem rt_lift256 (w0 w : World) (R G : List Seg) (hG : G ⊆ R) (t : Rx) (hg : t.Good) (gn : Nat) (gs : Nat) (width : Int) (hSm : Sm w0 G 82 gs width) (hTr : Tr w0 G true t gn) (hT : Tab w0) (hA : Hp w0 R w) : Calls Tryd.prog 55 #[.pointer (some ⟨gs, 0, none⟩), .pointer (some ⟨gn, 0, none⟩), .int .i64 256] w fun e w' => e = .returned (.agg (dc (t.lift width 256)).toArray) ∧ Hp w0 R w' :=
  rt_lift w0 w R G hG t hg gn gs width 256 (by omega) (Nat.le_refl _) hSm hTr hT hA
/-- a tree of items: its two cells -/
def TV (w0 : World) (G : List Seg) (L : List Itm) (top sl : Value) : Prop :=
  (L = [] ∧ top = .pointer none ∧ sl = .slice none 0 0) ∨ ∃ t g ad c, t.items = L ∧ t.Good ∧ top = ptr g ∧ sl = .slice (some ad) 257 c ∧ Tr w0 G true t g ∧ Rc w0 G (some ad) (digs (emptyL 32) 257) ∧ 257 ≤ c
theorem TV.monoF {w0 : World} {G R : List Seg} {L : List Itm} {top sl : Value} (h : TV w0 G L top sl) (hs : G.flatten ⊆ R.flatten) : TV w0 R L top sl := by
  rcases h with h | ⟨t, g, ad, c, h1, h2, h3, h4, h5, h6, h7⟩
  · exact .inl h
  · exact .inr ⟨t, g, ad, c, h1, h2, h3, h4, h5.monoF hs, h6.monoF hs, h7⟩
theorem TV.mono {w0 : World} {G R : List Seg} {L : List Itm} {top sl : Value} (h : TV w0 G L top sl) (hs : G ⊆ R) : TV w0 R L top sl := h.monoF (flat_sub hs)
theorem TV.ok {w0 : World} {G : List Seg} {L : List Itm} {top sl : Value} (h : TV w0 G L top sl) : ∀ i ∈ L, i.OK := by
  rcases h with ⟨rfl, _⟩ | ⟨t, g, ad, c, rfl, h2, _⟩
  · intro i hi; cases hi
  · exact h2.ok
theorem TV.one {w0 : World} {G : List Seg} {L : List Itm} {top sl : Value} (h : TV w0 G L top sl) : top.oneCell' = true ∧ sl.oneCell' = true := by
  rcases h with ⟨_, rfl, rfl⟩ | ⟨t, g, ad, c, _, _, rfl, rfl, _⟩
  · exact ⟨rfl, rfl⟩
  · exact ⟨rfl, rfl⟩
/-- widths -/
theorem kept_clamp (width : Int) : kept (min (max width 1) 32) = kept width := by unfold kept; omega
theorem cutL_clamp (D : List UInt8) (width : Int) : cutL D (min (max width 1) 32) = cutL D width := by unfold cutL; rw [kept_clamp]
theorem branchL_clamp (width : Int) (X Y : List UInt8) : branchL (min (max width 1) 32) X Y = branchL width X Y := cutL_clamp _ _
theorem emptyL_clamp (width : Int) : ∀ k, emptyL (min (max width 1) 32) k = emptyL width k
  | 0 => cutL_clamp _ _
  | k + 1 => by
    show branchL _ (emptyL _ k) (emptyL _ k) = branchL width (emptyL width k) (emptyL width k)
    rw [branchL_clamp, emptyL_clamp width k]
theorem entryD_clamp (width : Int) (i : Itm) : entryD (min (max width 1) 32) i = entryD width i := cutL_clamp _ _
theorem subE_clamp (width : Int) : ∀ (h : Nat) (l : List Itm), subE (min (max width 1) 32) h l = subE width h l
  | h, [] => by rw [subE_nil, subE_nil, emptyL_clamp]
  | 0, i :: l => by rw [subE_zero, subE_zero, entryD_clamp]
  | h + 1, i :: l => by rw [subE_succ, subE_succ, branchL_clamp, subE_clamp width h, subE_clamp width h]
theorem nbr_clamp (width : Int) (k : List UInt8) (L : List Itm) (h : Nat) : nbr (min (max width 1) 32) k L h = nbr width k L h := subE_clamp width h _
theorem prvP_clamp (width : Int) (L : List Itm) (k : List UInt8) : prvP (min (max width 1) 32) L k 256 = prvP width L k 256 := by
  obtain ⟨h1, h2⟩ := pBits_congr (f := nbr (min (max width 1) 32) k L) (g := nbr width k L) (e := emptyL (min (max width 1) 32)) (e' := emptyL width) (n := 256) (fun h _ => nbr_clamp width k L h) (fun h _ => emptyL_clamp width h) 256 (Nat.le_refl _)
  unfold prvP
  rw [h1, h2]
theorem Rx.getL_eq {t : Rx} (hg : t.Good) (k : List UInt8) : getL t.items k = t.find k := (Rx.find_eq hg).symm
theorem getCt_some {L : List Itm} {k : List UInt8} {i : Itm} (h : getL L k = some i) : getCt L k = i.ct := by unfold getCt; rw [h]
theorem getCh_some {L : List Itm} {k : List UInt8} {i : Itm} (h : getL L k = some i) : getCh L k = i.ch := by unfold getCh; rw [h]
theorem getCt_none {L : List Itm} {k : List UInt8} (h : getL L k = none) : getCt L k = 0 := by unfold getCt; rw [h]
theorem getCh_none {L : List Itm} {k : List UInt8} (h : getL L k = none) : getCh L k = List.replicate 32 0 := by unfold getCh; rw [h]; rfl
theorem rt_find_no (w0 w : World) (R G : List Seg) (hG : G ⊆ R) (t : Rx) (hg : t.Good) (gn : Nat) (q : Bool) (k : List UInt8) (hk : k.length = 32) (hTr : Tr w0 G q t gn) (hf : t.find k = none) (hA : Hp w0 R w) : Calls Tryd.prog 64 #[.pointer (some ⟨gn, 0, none⟩), .agg (dc k).toArray] w fun e w' => e = .returned (.pointer none) ∧ Hp w0 R w' := by
  refine (rt_find w0 w R G hG t hg gn q k hk hTr hA).mono ?_
  rintro e w' ⟨⟨_, rfl⟩ | ⟨i, g, h, _⟩, hA2⟩
  · exact ⟨rfl, hA2⟩
  · rw [hf] at h; cases h
theorem rt_find_yes (w0 w : World) (R G : List Seg) (hG : G ⊆ R) (t : Rx) (hg : t.Good) (gn : Nat) (q : Bool) (k : List UInt8) (hk : k.length = 32) (hTr : Tr w0 G q t gn) (i : Itm) (hf : t.find k = some i) (hA : Hp w0 R w) : Calls Tryd.prog 64 #[.pointer (some ⟨gn, 0, none⟩), .agg (dc k).toArray] w fun e w' => ∃ g, e = .returned (.pointer (some ⟨g, 0, none⟩)) ∧ (i.OK ∧ Rw w0 G g (leafC i)) ∧ Hp w0 R w' := by
  refine (rt_find w0 w R G hG t hg gn q k hk hTr hA).mono ?_
  rintro e w' ⟨⟨h, rfl⟩ | ⟨j, g, h, rfl, h3⟩, hA2⟩
  · rw [hf] at h; cases h
  · rw [hf] at h; cases h; exact ⟨g, rfl, h3, hA2⟩
theorem nr3_s13 : notRow Tryd.prog 3 = true := by kernel_rfl
theorem nr26_s13 : notRow Tryd.prog 26 = true := by kernel_rfl
theorem nr43_s13 : notRow Tryd.prog 43 = true := by kernel_rfl
theorem rw23_s13 : isRow Tryd.prog 23 32 = true := by kernel_rfl
theorem rw25_s13 : isRow Tryd.prog 25 33 = true := by kernel_rfl
theorem rw45_s13 : isRow Tryd.prog 45 2 = true := by kernel_rfl
theorem sz3_s13 : (Tryd.prog.info? 3).map (·.size) = some 1 := by kernel_rfl
theorem sz23_s13 : (Tryd.prog.info? 23).map (·.size) = some 32 := by kernel_rfl
theorem sz25_s13 : (Tryd.prog.info? 25).map (·.size) = some 33 := by kernel_rfl
theorem sz26_s13 : (Tryd.prog.info? 26).map (·.size) = some 1 := by kernel_rfl
theorem sz43_s13 : (Tryd.prog.info? 43).map (·.size) = some 1 := by kernel_rfl
theorem sz45_s13 : (Tryd.prog.info? 45).map (·.size) = some 2 := by kernel_rfl
theorem sz104_s13 : (Tryd.prog.info? 104).map (·.size) = some 2 := by kernel_rfl
theorem cl54_s13 : CallsTo Tryd.prog 54 := ⟨_, Tryd.func54, by kernel_rfl, by kernel_rfl⟩
theorem cl55_s13 : CallsTo Tryd.prog 55 := ⟨_, Tryd.func55, by kernel_rfl, by kernel_rfl⟩
theorem cl56_s13 : CallsTo Tryd.prog 56 := ⟨_, Tryd.func56, by kernel_rfl, by kernel_rfl⟩
theorem cl57_s13 : CallsTo Tryd.prog 57 := ⟨_, Tryd.func57, by kernel_rfl, by kernel_rfl⟩
theorem cl64_s13 : CallsTo Tryd.prog 64 := ⟨_, Tryd.func64, by kernel_rfl, by kernel_rfl⟩
theorem cl74_s13 : CallsTo Tryd.prog 74 := ⟨_, Tryd.func74, by kernel_rfl, by kernel_rfl⟩
theorem cl76_s13 : CallsTo Tryd.prog 76 := ⟨_, Tryd.func76, by kernel_rfl, by kernel_rfl⟩
theorem cl87_s13 : CallsTo Tryd.prog 87 := ⟨_, Tryd.func87, by kernel_rfl, by kernel_rfl⟩
theorem cl93_s13 : CallsTo Tryd.prog 93 := ⟨_, Tryd.func93, by kernel_rfl, by kernel_rfl⟩

theorem zr23_s13 : zeroIs Tryd.prog 23 (.agg (dc (List.replicate 32 0)).toArray) := by unfold zeroIs; kernel_rfl
theorem zr25_s13 : zeroIs Tryd.prog 25 (.agg ([.int .i64 0, .int .u8 0, .int .u8 0, .int .u8 0, .int .u8 0, .int .u8 0, .int .u8 0, .int .u8 0, .int .u8 0, .int .u8 0, .int .u8 0, .int .u8 0, .int .u8 0, .int .u8 0, .int .u8 0, .int .u8 0, .int .u8 0, .int .u8 0, .int .u8 0, .int .u8 0, .int .u8 0, .int .u8 0, .int .u8 0, .int .u8 0, .int .u8 0, .int .u8 0, .int .u8 0, .int .u8 0, .int .u8 0, .int .u8 0, .int .u8 0, .int .u8 0, .int .u8 0] : List Value).toArray) := by unfold zeroIs; kernel_rfl
theorem zr45_s13 : zeroIs Tryd.prog 45 (.agg ([.pointer none, .slice none 0 0] : List Value).toArray) := by unfold zeroIs; kernel_rfl

set_option maxRecDepth 100000 in
set_option maxHeartbeats 2000000 in
theorem rt_at1 (w0 w : World) (R : List Seg) (width : Int) (hkw : 32 = min (max width 1) 32) (ad : Addr) (c : Nat) (hA : Hp w0 R w) : Calls Tryd.prog 54 #[.int .i64 width, .slice (some ad) 257 c] w fun e w' => ∃ g wb, e = .returned (.pointer (some ⟨g, 0, none⟩)) ∧ Hp w0 ([row g 102 [.int .i64 32, .slice (some ad) 257 c, .func (.func 82) #[] #[.pointer (some ⟨wb, 0, none⟩)]]] :: [row wb 3 [.int .i64 32]] :: R) w' := by
  refine vc_enter Tryd.func54 rfl Tryd.ntmps54 (Nat.le_of_ble_eq_true rfl) (fun a hF => ?_)
  apply wp_seq_k; intro K1 hK1
  refine wp_region_lit ?_
  refine vc_op rfl (fun K hK => hs_box1 hF rfl (by decide) rfl hA rfl rfl (fun b1 w2 a hb1 hF hA3 => hK _ _ ?_))
  clear hK K
  replace hA3 : Hp w0 ([row b1 3 [.int .i64 width]] :: R) w2 := hA3
  refine vc_y hF rfl rfl (by decide) _ (y_assign rfl rfl) (fun a hF => ?_)
  refine vc_nil ?_
  refine hK1 _ _ ?_; clear  hK1 K1
  apply wp_seq_k; intro K2 hK2
  refine wp_region_lit ?_
  refine vc_y hF rfl rfl (by decide) _ (y_ld rfl hA3.q rfl 0 rfl rfl nr3_s13) (fun a hF => ?_)
  refine vc_y hF rfl rfl (by decide) _ (y_max rfl rfl rfl rfl) (fun a hF => ?_)
  refine vc_y hF rfl rfl (by decide) _ (y_min rfl rfl rfl hkw.symm) (fun a hF => ?_)
  refine vc_op rfl (fun K hK => hs_store1 hF rfl rfl hA3 rfl rfl 0 rfl (by simp) rfl sz3_s13 (fun w4 hA5 => hK _ _ ?_))
  clear hK K
  replace hA5 : Hp w0 ([row b1 3 [.int .i64 32]] :: R) w4 := hA5
  refine vc_nil ?_
  refine hK2 _ _ ?_; clear  hK2 K2
  apply wp_seq_k; intro K3 hK3
  apply wp_seq_k; intro K4 hK4
  refine wp_region_lit ?_
  refine vc_y hF rfl rfl (by decide) _ (y_move rfl rfl) (fun a hF => ?_)
  refine vc_y hF rfl rfl (by decide) _ (y_slNilF rfl Tryd.underlying26 rfl rfl) (fun a hF => ?_)
  refine vc_y hF rfl rfl (by decide) _ (y_move rfl rfl) (fun a hF => ?_)
  refine vc_yg hF rfl rfl rfl rfl rfl (by decide) _ (y_ld rfl hA5.q rfl 0 rfl rfl nr3_s13) (fun a hF => ?_)
  refine vc_yg hF rfl rfl rfl rfl rfl (by decide) _ (y_cmp rfl rfl rfl rfl (neq_f (by omega))) (fun a hF => ?_)
  refine vc_y hF rfl rfl (by decide) _ (y_pick rfl rfl rfl) (fun a hF => ?_)
  refine vc_nil ?_
  refine hK4 _ _ ?_; clear  hK4 K4
  refine vc_false hF rfl ?_
  apply wp_skip
  refine hK3 _ _ ?_; clear  hK3 K3
  apply wp_seq_k; intro K5 hK5
  refine wp_region_lit ?_
  refine vc_y hF rfl rfl (by decide) _ (y_ld rfl hA5.q rfl 0 rfl rfl nr3_s13) (fun a hF => ?_)
  refine vc_y hF rfl rfl (by decide) _ (y_move rfl rfl) (fun a hF => ?_)
  refine vc_y hF rfl rfl (by decide) _ (y_makeFunc rfl rfl) (fun a hF => ?_)
  refine vc_y hF rfl rfl (by decide) _ (y_build (qs := #[(0, .int .i64 32), (1, .slice (some ad) 257 c), (2, .func (.func 82) #[] #[.pointer (some ⟨b1, 0, none⟩)])]) rfl rfl (rx_build3 _ _ _ _)) (fun a hF => ?_)
  refine vc_op rfl (fun K hK => hs_box (cs := [.int .i64 32, .slice (some ad) 257 c, .func (.func 82) #[] #[.pointer (some ⟨b1, 0, none⟩)]]) hF rfl (by decide) rfl hA5 rfl (fun b6 w7 a hb6 hF hA8 => hK _ _ ?_))
  clear hK K
  replace hA8 : Hp w0 ([row b6 102 [.int .i64 32, .slice (some ad) 257 c, .func (.func 82) #[] #[.pointer (some ⟨b1, 0, none⟩)]]] :: [row b1 3 [.int .i64 32]] :: R) w7 := hA8
  refine vc_y hF rfl rfl (by decide) _ (y_assign rfl rfl) (fun a hF => ?_)
  refine vc_nil ?_
  refine hK5 _ _ ?_; clear  hK5 K5
  apply wp_ret
  refine vc_ret1 hF Tryd.results54 rfl ?_
  exact ⟨b6, b1, rfl, hA8⟩

set_option maxRecDepth 100000 in
set_option maxHeartbeats 2000000 in
theorem rt_at2 (w0 w : World) (R : List Seg) (width kw : Int) (hkw : kw = min (max width 1) 32) (hk : ¬ kw = 32) (ad : Addr) (c : Nat) (hT : Tab w0) (hA : Hp w0 R w) : Calls Tryd.prog 54 #[.int .i64 width, .slice (some ad) 257 c] w fun e w' => ∃ g wb A c X, e = .returned (.pointer (some ⟨g, 0, none⟩)) ∧ Rc w0 [X] A (digs (emptyL kw) 257) ∧ 257 ≤ c ∧ Hp w0 ([row g 102 [.int .i64 kw, .slice A 257 c, .func (.func 82) #[] #[.pointer (some ⟨wb, 0, none⟩)]]] :: [row wb 3 [.int .i64 kw]] :: X :: R) w' := by
  refine vc_enter Tryd.func54 rfl Tryd.ntmps54 (Nat.le_of_ble_eq_true rfl) (fun a hF => ?_)
  apply wp_seq_k; intro K1 hK1
  refine wp_region_lit ?_
  refine vc_op rfl (fun K hK => hs_box1 hF rfl (by decide) rfl hA rfl rfl (fun b1 w2 a hb1 hF hA3 => hK _ _ ?_))
  clear hK K
  replace hA3 : Hp w0 ([row b1 3 [.int .i64 width]] :: R) w2 := hA3
  refine vc_y hF rfl rfl (by decide) _ (y_assign rfl rfl) (fun a hF => ?_)
  refine vc_nil ?_
  refine hK1 _ _ ?_; clear  hK1 K1
  apply wp_seq_k; intro K2 hK2
  refine wp_region_lit ?_
  refine vc_y hF rfl rfl (by decide) _ (y_ld rfl hA3.q rfl 0 rfl rfl nr3_s13) (fun a hF => ?_)
  refine vc_y hF rfl rfl (by decide) _ (y_max rfl rfl rfl rfl) (fun a hF => ?_)
  refine vc_y hF rfl rfl (by decide) _ (y_min rfl rfl rfl hkw.symm) (fun a hF => ?_)
  refine vc_op rfl (fun K hK => hs_store1 hF rfl rfl hA3 rfl rfl 0 rfl (by simp) rfl sz3_s13 (fun w4 hA5 => hK _ _ ?_))
  clear hK K
  replace hA5 : Hp w0 ([row b1 3 [.int .i64 kw]] :: R) w4 := hA5
  refine vc_nil ?_
  refine hK2 _ _ ?_; clear  hK2 K2
  apply wp_seq_k; intro K3 hK3
  apply wp_seq_k; intro K4 hK4
  refine wp_region_lit ?_
  refine vc_y hF rfl rfl (by decide) _ (y_move rfl rfl) (fun a hF => ?_)
  refine vc_y hF rfl rfl (by decide) _ (y_slNilF rfl Tryd.underlying26 rfl rfl) (fun a hF => ?_)
  refine vc_y hF rfl rfl (by decide) _ (y_move rfl rfl) (fun a hF => ?_)
  refine vc_yg hF rfl rfl rfl rfl rfl (by decide) _ (y_ld rfl hA5.q rfl 0 rfl rfl nr3_s13) (fun a hF => ?_)
  refine vc_yg hF rfl rfl rfl rfl rfl (by decide) _ (y_cmp rfl rfl rfl rfl (neq_t (by omega))) (fun a hF => ?_)
  refine vc_y hF rfl rfl (by decide) _ (y_pick rfl rfl rfl) (fun a hF => ?_)
  refine vc_nil ?_
  refine hK4 _ _ ?_; clear  hK4 K4
  refine vc_true hF rfl ?_
  refine wp_region_lit ?_
  refine vc_y hF rfl rfl (by decide) _ (y_ld rfl hA5.q rfl 0 rfl rfl nr3_s13) (fun a hF => ?_)
  refine vc_op rfl (fun K hK => ws_call hF rfl (by decide) cl74_s13 rfl rfl ?_)
  with_reducible refine (sp_empties w0 _ ([row b1 3 [.int .i64 kw]] :: R) kw hT hA5 ).mono ?_
  rintro e' w6 ⟨ev, X, rfl, hX, hA7⟩
  refine ⟨_, rfl, fun a hF => hK _ _ ?_⟩
  clear hK K
  replace hA7 : Hp w0 (X :: [row b1 3 [.int .i64 kw]] :: R) w6 := hA7
  have hFn := hF
  obtain ⟨A, c2, rfl, hcb, hRc⟩ := hX.rc (w0 := w0) (R := [X]) (List.mem_cons_self ..)
  have hF := hFn
  refine vc_y hF rfl rfl (by decide) _ (y_assign rfl rfl) (fun a hF => ?_)
  refine vc_nil ?_
  refine hK3 _ _ ?_; clear  hK3 K3
  apply wp_seq_k; intro K5 hK5
  refine wp_region_lit ?_
  refine vc_y hF rfl rfl (by decide) _ (y_ld rfl hA7.q rfl 1 rfl rfl nr3_s13) (fun a hF => ?_)
  refine vc_y hF rfl rfl (by decide) _ (y_move rfl rfl) (fun a hF => ?_)
  refine vc_y hF rfl rfl (by decide) _ (y_makeFunc rfl rfl) (fun a hF => ?_)
  refine vc_y hF rfl rfl (by decide) _ (y_build (qs := #[(0, .int .i64 kw), (1, .slice A 257 c2), (2, .func (.func 82) #[] #[.pointer (some ⟨b1, 0, none⟩)])]) rfl rfl (rx_build3 _ _ _ _)) (fun a hF => ?_)
  refine vc_op rfl (fun K hK => hs_box (cs := [.int .i64 kw, .slice A 257 c2, .func (.func 82) #[] #[.pointer (some ⟨b1, 0, none⟩)]]) hF rfl (by decide) rfl hA7 rfl (fun b8 w9 a hb8 hF hA10 => hK _ _ ?_))
  clear hK K
  replace hA10 : Hp w0 ([row b8 102 [.int .i64 kw, .slice A 257 c2, .func (.func 82) #[] #[.pointer (some ⟨b1, 0, none⟩)]]] :: X :: [row b1 3 [.int .i64 kw]] :: R) w9 := hA10
  refine vc_y hF rfl rfl (by decide) _ (y_assign rfl rfl) (fun a hF => ?_)
  refine vc_nil ?_
  refine hK5 _ _ ?_; clear  hK5 K5
  apply wp_ret
  refine vc_ret1 hF Tryd.results54 rfl ?_
  have hA11 : Hp w0 ([row b8 102 [.int .i64 kw, .slice A 257 c2, .func (.func 82) #[] #[.pointer (some ⟨b1, 0, none⟩)]]] :: [row b1 3 [.int .i64 kw]] :: X :: R) w9 := Hp.ord [[row b8 102 [.int .i64 kw, .slice A 257 c2, .func (.func 82) #[] #[.pointer (some ⟨b1, 0, none⟩)]]], X, [row b1 3 [.int .i64 kw]]] R [0, 2, 1] hA10 rfl
  exact ⟨b8, b1, A, c2, X, rfl, hRc, hcb, hA11⟩

set_option maxRecDepth 100000 in
set_option maxHeartbeats 2000000 in
theorem rt_at0 (w0 w : World) (R : List Seg) (width kw : Int) (hkw : kw = min (max width 1) 32) (hT : Tab w0) (hA : Hp w0 R w) : Calls Tryd.prog 54 #[.int .i64 width, .slice none 0 0] w fun e w' => ∃ g wb A c X, e = .returned (.pointer (some ⟨g, 0, none⟩)) ∧ Rc w0 [X] A (digs (emptyL kw) 257) ∧ 257 ≤ c ∧ Hp w0 ([row g 102 [.int .i64 kw, .slice A 257 c, .func (.func 82) #[] #[.pointer (some ⟨wb, 0, none⟩)]]] :: [row wb 3 [.int .i64 kw]] :: X :: R) w' := by
  refine vc_enter Tryd.func54 rfl Tryd.ntmps54 (Nat.le_of_ble_eq_true rfl) (fun a hF => ?_)
  apply wp_seq_k; intro K1 hK1
  refine wp_region_lit ?_
  refine vc_op rfl (fun K hK => hs_box1 hF rfl (by decide) rfl hA rfl rfl (fun b1 w2 a hb1 hF hA3 => hK _ _ ?_))
  clear hK K
  replace hA3 : Hp w0 ([row b1 3 [.int .i64 width]] :: R) w2 := hA3
  refine vc_y hF rfl rfl (by decide) _ (y_assign rfl rfl) (fun a hF => ?_)
  refine vc_nil ?_
  refine hK1 _ _ ?_; clear  hK1 K1
  apply wp_seq_k; intro K2 hK2
  refine wp_region_lit ?_
  refine vc_y hF rfl rfl (by decide) _ (y_ld rfl hA3.q rfl 0 rfl rfl nr3_s13) (fun a hF => ?_)
  refine vc_y hF rfl rfl (by decide) _ (y_max rfl rfl rfl rfl) (fun a hF => ?_)
  refine vc_y hF rfl rfl (by decide) _ (y_min rfl rfl rfl hkw.symm) (fun a hF => ?_)
  refine vc_op rfl (fun K hK => hs_store1 hF rfl rfl hA3 rfl rfl 0 rfl (by simp) rfl sz3_s13 (fun w4 hA5 => hK _ _ ?_))
  clear hK K
  replace hA5 : Hp w0 ([row b1 3 [.int .i64 kw]] :: R) w4 := hA5
  refine vc_nil ?_
  refine hK2 _ _ ?_; clear  hK2 K2
  apply wp_seq_k; intro K3 hK3
  apply wp_seq_k; intro K4 hK4
  refine wp_region_lit ?_
  refine vc_y hF rfl rfl (by decide) _ (y_move rfl rfl) (fun a hF => ?_)
  refine vc_y hF rfl rfl (by decide) _ (y_slNilT rfl Tryd.underlying26 rfl rfl) (fun a hF => ?_)
  refine vc_y hF rfl rfl (by decide) _ (y_move rfl rfl) (fun a hF => ?_)
  refine vc_skip hF rfl rfl rfl rfl rfl rfl (by decide) (fun a hF => ?_)
  refine vc_skip hF rfl rfl rfl rfl rfl rfl (by decide) (fun a hF => ?_)
  refine vc_y hF rfl rfl (by decide) _ (y_pick rfl rfl rfl) (fun a hF => ?_)
  refine vc_nil ?_
  refine hK4 _ _ ?_; clear  hK4 K4
  refine vc_true hF rfl ?_
  refine wp_region_lit ?_
  refine vc_y hF rfl rfl (by decide) _ (y_ld rfl hA5.q rfl 0 rfl rfl nr3_s13) (fun a hF => ?_)
  refine vc_op rfl (fun K hK => ws_call hF rfl (by decide) cl74_s13 rfl rfl ?_)
  with_reducible refine (sp_empties w0 _ ([row b1 3 [.int .i64 kw]] :: R) kw hT hA5 ).mono ?_
  rintro e' w6 ⟨ev, X, rfl, hX, hA7⟩
  refine ⟨_, rfl, fun a hF => hK _ _ ?_⟩
  clear hK K
  replace hA7 : Hp w0 (X :: [row b1 3 [.int .i64 kw]] :: R) w6 := hA7
  have hFn := hF
  obtain ⟨A, c2, rfl, hcb, hRc⟩ := hX.rc (w0 := w0) (R := [X]) (List.mem_cons_self ..)
  have hF := hFn
  refine vc_y hF rfl rfl (by decide) _ (y_assign rfl rfl) (fun a hF => ?_)
  refine vc_nil ?_
  refine hK3 _ _ ?_; clear  hK3 K3
  apply wp_seq_k; intro K5 hK5
  refine wp_region_lit ?_
  refine vc_y hF rfl rfl (by decide) _ (y_ld rfl hA7.q rfl 1 rfl rfl nr3_s13) (fun a hF => ?_)
  refine vc_y hF rfl rfl (by decide) _ (y_move rfl rfl) (fun a hF => ?_)
  refine vc_y hF rfl rfl (by decide) _ (y_makeFunc rfl rfl) (fun a hF => ?_)
  refine vc_y hF rfl rfl (by decide) _ (y_build (qs := #[(0, .int .i64 kw), (1, .slice A 257 c2), (2, .func (.func 82) #[] #[.pointer (some ⟨b1, 0, none⟩)])]) rfl rfl (rx_build3 _ _ _ _)) (fun a hF => ?_)
  refine vc_op rfl (fun K hK => hs_box (cs := [.int .i64 kw, .slice A 257 c2, .func (.func 82) #[] #[.pointer (some ⟨b1, 0, none⟩)]]) hF rfl (by decide) rfl hA7 rfl (fun b8 w9 a hb8 hF hA10 => hK _ _ ?_))
  clear hK K
  replace hA10 : Hp w0 ([row b8 102 [.int .i64 kw, .slice A 257 c2, .func (.func 82) #[] #[.pointer (some ⟨b1, 0, none⟩)]]] :: X :: [row b1 3 [.int .i64 kw]] :: R) w9 := hA10
  refine vc_y hF rfl rfl (by decide) _ (y_assign rfl rfl) (fun a hF => ?_)
  refine vc_nil ?_
  refine hK5 _ _ ?_; clear  hK5 K5
  apply wp_ret
  refine vc_ret1 hF Tryd.results54 rfl ?_
  have hA11 : Hp w0 ([row b8 102 [.int .i64 kw, .slice A 257 c2, .func (.func 82) #[] #[.pointer (some ⟨b1, 0, none⟩)]]] :: [row b1 3 [.int .i64 kw]] :: X :: R) w9 := Hp.ord [[row b8 102 [.int .i64 kw, .slice A 257 c2, .func (.func 82) #[] #[.pointer (some ⟨b1, 0, none⟩)]]], X, [row b1 3 [.int .i64 kw]]] R [0, 2, 1] hA10 rfl
  exact ⟨b8, b1, A, c2, X, rfl, hRc, hcb, hA11⟩

theorem rt_atN (w0 w : World) (R : List Seg) (width : Int) (hT : Tab w0) (hA : Hp w0 R w) : Calls Tryd.prog 54 #[.int .i64 width, .slice none 0 0] w fun e w' => ∃ gs X, e = .returned (.pointer (some ⟨gs, 0, none⟩)) ∧ Sm2 w0 [X] 82 gs (min (max width 1) 32) ∧ Hp w0 (X :: R) w' := by
  refine (rt_at0 w0 w R width _ rfl hT hA).mono ?_
  rintro e w' ⟨g, wb, A, c, X, rfl, hRc, hcb, hA2⟩
  refine ⟨g, row g 102 [.int .i64 (min (max width 1) 32), .slice A 257 c, .func (.func 82) #[] #[.pointer (some ⟨wb, 0, none⟩)]] :: (row wb 3 [.int .i64 (min (max width 1) 32)] :: X), rfl, ⟨A, c, wb, Rw.ofMem (List.mem_cons_self ..) (List.mem_cons_self ..), Rw.ofMem (List.mem_cons_self ..) (List.mem_cons_of_mem _ (List.mem_cons_self ..)), hRc.monoF (fun r hr => ?_), hcb⟩, Hp.cast hA2 (by simp only [List.flatten_cons, List.append_assoc, List.cons_append, List.nil_append])⟩
  rw [List.flatten_cons, List.flatten_nil, List.append_nil] at hr ⊢
  exact List.mem_cons_of_mem _ (List.mem_cons_of_mem _ hr)
theorem rt_atS (w0 w : World) (R G : List Seg) (width : Int) (ad : Addr) (c : Nat) (hcb : 257 ≤ c) (hRc : Rc w0 G (some ad) (digs (emptyL 32) 257)) (hT : Tab w0) (hA : Hp w0 R w) : Calls Tryd.prog 54 #[.int .i64 width, .slice (some ad) 257 c] w fun e w' => ∃ gs X, e = .returned (.pointer (some ⟨gs, 0, none⟩)) ∧ Sm2 w0 (X :: G) 82 gs (min (max width 1) 32) ∧ Hp w0 (X :: R) w' := by
  by_cases hk : min (max width 1) 32 = 32
  · rw [hk]
    refine (rt_at1 w0 w R width hk.symm ad c hA).mono ?_
    rintro e w' ⟨g, wb, rfl, hA2⟩
    exact ⟨g, row g 102 [.int .i64 32, .slice (some ad) 257 c, .func (.func 82) #[] #[.pointer (some ⟨wb, 0, none⟩)]] :: [row wb 3 [.int .i64 32]], rfl, ⟨some ad, c, wb, Rw.ofMem (List.mem_cons_self ..) (List.mem_cons_self ..), Rw.ofMem (List.mem_cons_self ..) (List.mem_cons_of_mem _ (List.mem_cons_self ..)), hRc.mono (List.subset_cons_of_subset _ (List.Subset.refl _)), hcb⟩, Hp.cast hA2 (by simp only [List.flatten_cons, List.append_assoc, List.cons_append, List.nil_append])⟩
  · refine (rt_at2 w0 w R width _ rfl hk ad c hT hA).mono ?_
    rintro e w' ⟨g, wb, A, c2, X, rfl, hR2, hcb2, hA2⟩
    refine ⟨g, row g 102 [.int .i64 (min (max width 1) 32), .slice A 257 c2, .func (.func 82) #[] #[.pointer (some ⟨wb, 0, none⟩)]] :: (row wb 3 [.int .i64 (min (max width 1) 32)] :: X), rfl, ⟨A, c2, wb, Rw.ofMem (List.mem_cons_self ..) (List.mem_cons_self ..), Rw.ofMem (List.mem_cons_self ..) (List.mem_cons_of_mem _ (List.mem_cons_self ..)), hR2.monoF (fun r hr => ?_), hcb2⟩, Hp.cast hA2 (by simp only [List.flatten_cons, List.append_assoc, List.cons_append, List.nil_append])⟩
    rw [List.flatten_cons, List.flatten_nil, List.append_nil] at hr
    rw [List.flatten_cons]
    exact List.mem_cons_of_mem _ (List.mem_cons_of_mem _ (List.mem_append_left _ hr))

set_option maxRecDepth 100000 in
set_option maxHeartbeats 2000000 in
theorem rt_lenS (w0 w : World) (R G : List Seg) (hG : G ⊆ R) (t : Rx) (hg : t.Good) (gn : Nat) (hTr : Tr w0 G true t gn) (sv : Value) (hA : Hp w0 R w) : Calls Tryd.prog 20 #[.agg ([.pointer (some ⟨gn, 0, none⟩), sv] : List Value).toArray] w fun e w' => e = .returned (.int .i64 ((t.size : Nat) : Int)) ∧ Hp w0 R w' := by
  obtain ⟨E, p, p', s, hL, hN⟩ := Tr.view hg hTr
  refine vc_enter Tryd.func20 rfl Tryd.ntmps20 (Nat.le_of_ble_eq_true rfl) (fun a hF => ?_)
  apply wp_seq_k; intro K1 hK1
  refine wp_region_lit ?_
  refine vc_op rfl (fun K hK => hs_box (cs := [.pointer (some ⟨gn, 0, none⟩), sv]) hF rfl (by decide) rfl hA rfl (fun b1 w2 a hb1 hF hA3 => hK _ _ ?_))
  clear hK K
  replace hA3 : Hp w0 ([row b1 45 [.pointer (some ⟨gn, 0, none⟩), sv]] :: R) w2 := hA3
  refine vc_y hF rfl rfl (by decide) _ (y_assign rfl rfl) (fun a hF => ?_)
  refine vc_nil ?_
  refine hK1 _ _ ?_; clear  hK1 K1
  apply wp_seq_k; intro K2 hK2
  apply wp_seq_k; intro K3 hK3
  refine wp_region_lit ?_
  refine vc_y hF rfl rfl (by decide) _ (y_field rfl Tryd.underlying45 rfl sz43_s13 (by decide) rfl (rfl : (⟨_, 0 + _, none⟩ : Addr) = ⟨_, 0, none⟩)) (fun a hF => ?_)
  refine vc_y hF rfl rfl (by decide) _ (y_ld rfl hA3.q rfl 0 rfl rfl nr43_s13) (fun a hF => ?_)
  refine vc_y hF rfl rfl (by decide) _ (y_eqNil rfl (by kernel_rfl) rfl rfl) (fun a hF => ?_)
  refine vc_nil ?_
  refine hK3 _ _ ?_; clear  hK3 K3
  refine vc_false hF rfl ?_
  apply wp_skip
  refine hK2 _ _ ?_; clear  hK2 K2
  apply wp_seq_k; intro K4 hK4
  refine wp_region_lit ?_
  refine vc_y hF rfl rfl (by decide) _ (y_field rfl Tryd.underlying45 rfl sz43_s13 (by decide) rfl (rfl : (⟨_, 0 + _, none⟩ : Addr) = ⟨_, 0, none⟩)) (fun a hF => ?_)
  refine vc_y hF rfl rfl (by decide) _ (y_ld rfl hA3.q rfl 0 rfl rfl nr43_s13) (fun a hF => ?_)
  refine vc_y hF rfl rfl (by decide) _ (y_nilCheck rfl rfl) (fun a hF => ?_)
  refine vc_y hF rfl rfl (by decide) _ (y_field rfl Tryd.underlying107 rfl sz3_s13 (by decide) rfl (rfl : (⟨_, 0 + _, none⟩ : Addr) = ⟨_, 65, none⟩)) (fun a hF => ?_)
  refine vc_y hF rfl rfl (by decide) _ (y_ldC rfl (Hq.sub hA3.q (List.Subset.trans hG (subC (sub0)))) rfl hN 65 (by rw [nodeC_len hL]; decide) rfl (nodeC_size hL _ _ _ _) nr3_s13) (fun a hF => ?_)
  refine vc_y hF rfl rfl (by decide) _ (y_assign rfl rfl) (fun a hF => ?_)
  refine vc_nil ?_
  refine hK4 _ _ ?_; clear  hK4 K4
  apply wp_ret
  refine vc_ret1 hF Tryd.results20 rfl ?_
  have hA4 : Hp w0 (R) w2 := Hp.sel [[row b1 45 [.pointer (some ⟨gn, 0, none⟩), sv]]] R [] [0] hA3 rfl
  exact ⟨rfl, hA4⟩

set_option maxRecDepth 100000 in
set_option maxHeartbeats 2000000 in
theorem rt_getS (w0 w : World) (R G : List Seg) (hG : G ⊆ R) (t : Rx) (hg : t.Good) (gn : Nat) (hTr : Tr w0 G true t gn) (sv : Value) (k : List UInt8) (hk : k.length = 32) (hA : Hp w0 R w) : Calls Tryd.prog 34 #[.agg ([.pointer (some ⟨gn, 0, none⟩), sv] : List Value).toArray, .agg (dc k).toArray] w fun e w' => e = .returned (.tuple #[.agg (.int .i64 (getCt t.items k) :: dc (getCh t.items k)).toArray, .bool (getL t.items k).isSome]) ∧ Hp w0 R w' := by
  have hdk : (dc k).length = 32 := by rw [dc_length, hk]
  refine vc_enter Tryd.func34 rfl Tryd.ntmps34 (Nat.le_of_ble_eq_true rfl) (fun a hF => ?_)
  apply wp_seq_k; intro K1 hK1
  refine wp_region_lit ?_
  refine vc_op rfl (fun K hK => hs_box (cs := [.pointer (some ⟨gn, 0, none⟩), sv]) hF rfl (by decide) rfl hA rfl (fun b1 w2 a hb1 hF hA3 => hK _ _ ?_))
  clear hK K
  replace hA3 : Hp w0 ([row b1 45 [.pointer (some ⟨gn, 0, none⟩), sv]] :: R) w2 := hA3
  refine vc_op rfl (fun K hK => hs_box (cs := dc k) hF rfl (by decide) rfl hA3 rfl (fun b4 w5 a hb4 hF hA6 => hK _ _ ?_))
  clear hK K
  replace hA6 : Hp w0 ([row b4 23 (dc k)] :: [row b1 45 [.pointer (some ⟨gn, 0, none⟩), sv]] :: R) w5 := hA6
  refine vc_op rfl (fun K hK => hs_alloc hF rfl (by decide) rfl hA6 (zr25_s13) (fun b7 w8 a hb7 hF hA9 => hK _ _ ?_))
  clear hK K
  replace hA9 : Hp w0 ([row b7 25 [.int .i64 0, .int .u8 0, .int .u8 0, .int .u8 0, .int .u8 0, .int .u8 0, .int .u8 0, .int .u8 0, .int .u8 0, .int .u8 0, .int .u8 0, .int .u8 0, .int .u8 0, .int .u8 0, .int .u8 0, .int .u8 0, .int .u8 0, .int .u8 0, .int .u8 0, .int .u8 0, .int .u8 0, .int .u8 0, .int .u8 0, .int .u8 0, .int .u8 0, .int .u8 0, .int .u8 0, .int .u8 0, .int .u8 0, .int .u8 0, .int .u8 0, .int .u8 0, .int .u8 0]] :: [row b4 23 (dc k)] :: [row b1 45 [.pointer (some ⟨gn, 0, none⟩), sv]] :: R) w8 := hA9
  refine vc_y hF rfl rfl (by decide) _ (y_assign rfl rfl) (fun a hF => ?_)
  refine vc_nil ?_
  refine hK1 _ _ ?_; clear  hK1 K1
  apply wp_seq_k; intro K2 hK2
  by_cases hf : t.find k = none
  · have hfk : getL t.items k = none := by rw [Rx.getL_eq hg]; exact hf
    have hct := getCt_none hfk
    have hch := getCh_none hfk
    have hss : (getL t.items k).isSome = false := by rw [hfk]; rfl
    have hel : (Value.int .i64 (getCt t.items k) :: dc (getCh t.items k)).length = 33 := by rw [hch]; rfl
    refine wp_region_lit ?_
    refine vc_y hF rfl rfl (by decide) _ (y_field rfl Tryd.underlying45 rfl sz43_s13 (by decide) rfl (rfl : (⟨_, 0 + _, none⟩ : Addr) = ⟨_, 0, none⟩)) (fun a hF => ?_)
    refine vc_y hF rfl rfl (by decide) _ (y_ld rfl hA9.q rfl 2 rfl rfl nr43_s13) (fun a hF => ?_)
    refine vc_y hF rfl rfl (by decide) _ (y_ldRow (new := dc k) rfl hA9.q rfl 1 rfl rw23_s13 (by rw [hdk]; exact Nat.le_refl _) (by rw [List.drop_zero]; exact List.take_of_length_le (by rw [hdk]; exact Nat.le_refl _))) (fun a hF => ?_)
    refine vc_op rfl (fun K hK => ws_call hF rfl (by decide) cl64_s13 rfl rfl ?_)
    with_reducible refine (rt_find_no w0 _ ([row b7 25 [.int .i64 0, .int .u8 0, .int .u8 0, .int .u8 0, .int .u8 0, .int .u8 0, .int .u8 0, .int .u8 0, .int .u8 0, .int .u8 0, .int .u8 0, .int .u8 0, .int .u8 0, .int .u8 0, .int .u8 0, .int .u8 0, .int .u8 0, .int .u8 0, .int .u8 0, .int .u8 0, .int .u8 0, .int .u8 0, .int .u8 0, .int .u8 0, .int .u8 0, .int .u8 0, .int .u8 0, .int .u8 0, .int .u8 0, .int .u8 0, .int .u8 0, .int .u8 0, .int .u8 0]] :: [row b4 23 (dc k)] :: [row b1 45 [.pointer (some ⟨gn, 0, none⟩), sv]] :: R) G (List.Subset.trans hG (subC (subC (subC (sub0))))) t hg gn true k hk hTr hf hA9 ).mono ?_
    rintro e' w10 ⟨rfl, hA11⟩
    refine ⟨_, rfl, fun a hF => hK _ _ ?_⟩
    clear hK K
    replace hA11 : Hp w0 ([row b7 25 [.int .i64 0, .int .u8 0, .int .u8 0, .int .u8 0, .int .u8 0, .int .u8 0, .int .u8 0, .int .u8 0, .int .u8 0, .int .u8 0, .int .u8 0, .int .u8 0, .int .u8 0, .int .u8 0, .int .u8 0, .int .u8 0, .int .u8 0, .int .u8 0, .int .u8 0, .int .u8 0, .int .u8 0, .int .u8 0, .int .u8 0, .int .u8 0, .int .u8 0, .int .u8 0, .int .u8 0, .int .u8 0, .int .u8 0, .int .u8 0, .int .u8 0, .int .u8 0, .int .u8 0]] :: [row b4 23 (dc k)] :: [row b1 45 [.pointer (some ⟨gn, 0, none⟩), sv]] :: R) w10 := hA11
    refine vc_y hF rfl rfl (by decide) _ (y_assign rfl rfl) (fun a hF => ?_)
    refine vc_nil ?_
    refine hK2 _ _ ?_; clear  hK2 K2
    apply wp_seq_k; intro K3 hK3
    apply wp_seq_k; intro K4 hK4
    refine wp_region_lit ?_
    refine vc_y hF rfl rfl (by decide) _ (y_move rfl rfl) (fun a hF => ?_)
    refine vc_y hF rfl rfl (by decide) _ (y_eqNilT rfl (by kernel_rfl) rfl rfl) (fun a hF => ?_)
    refine vc_nil ?_
    refine hK4 _ _ ?_; clear  hK4 K4
    refine vc_true hF rfl ?_
    apply wp_seq_k; intro K5 hK5
    refine wp_region_lit ?_
    refine vc_y hF rfl rfl (by decide) _ (y_build (v := .agg (.int .i64 (getCt t.items k) :: dc (getCh t.items k)).toArray) (qs := #[]) rfl rfl (by intro w; rw [hct, hch]; exact rt_ent0 w)) (fun a hF => ?_)
    refine vc_op rfl (fun K hK => hs_storeAll (new := .int .i64 (getCt t.items k) :: dc (getCh t.items k)) hF rfl rfl hA11 rfl rfl 0 rfl (by rw [hel]; rfl) (ent_one _ _) sz25_s13 (fun w12 hA13 => hK _ _ ?_))
    clear hK K
    replace hA13 : Hp w0 ([row b7 25 (.int .i64 (getCt t.items k) :: dc (getCh t.items k))] :: [row b4 23 (dc k)] :: [row b1 45 [.pointer (some ⟨gn, 0, none⟩), sv]] :: R) w12 := hA13
    refine vc_y hF rfl rfl (by decide) _ (y_assign rfl (show some (Value.bool false) = some (.bool (getL t.items k).isSome) by rw [hss])) (fun a hF => ?_)
    refine vc_nil ?_
    refine hK5 _ _ ?_; clear  hK5 K5
    apply wp_ret
    simp only [Exit.then]
    refine vc_retCT hF Tryd.results34 hA13.q rfl rfl 0 rfl (by rw [hel]; exact rw25_s13) ?_
    have hA14 : Hp w0 (R) w12 := Hp.sel [[row b7 25 (.int .i64 (getCt t.items k) :: dc (getCh t.items k))], [row b4 23 (dc k)], [row b1 45 [.pointer (some ⟨gn, 0, none⟩), sv]]] R [] [0, 1, 2] hA13 rfl
    exact ⟨rfl, hA14⟩
  · obtain ⟨i, hf⟩ := Option.ne_none_iff_exists'.1 hf
    have hfk : getL t.items k = some i := by rw [Rx.getL_eq hg]; exact hf
    have hct := getCt_some hfk
    have hch := getCh_some hfk
    have hss : (getL t.items k).isSome = true := by rw [hfk]; rfl
    refine wp_region_lit ?_
    refine vc_y hF rfl rfl (by decide) _ (y_field rfl Tryd.underlying45 rfl sz43_s13 (by decide) rfl (rfl : (⟨_, 0 + _, none⟩ : Addr) = ⟨_, 0, none⟩)) (fun a hF => ?_)
    refine vc_y hF rfl rfl (by decide) _ (y_ld rfl hA9.q rfl 2 rfl rfl nr43_s13) (fun a hF => ?_)
    refine vc_y hF rfl rfl (by decide) _ (y_ldRow (new := dc k) rfl hA9.q rfl 1 rfl rw23_s13 (by rw [hdk]; exact Nat.le_refl _) (by rw [List.drop_zero]; exact List.take_of_length_le (by rw [hdk]; exact Nat.le_refl _))) (fun a hF => ?_)
    refine vc_op rfl (fun K hK => ws_call hF rfl (by decide) cl64_s13 rfl rfl ?_)
    with_reducible refine (rt_find_yes w0 _ ([row b7 25 [.int .i64 0, .int .u8 0, .int .u8 0, .int .u8 0, .int .u8 0, .int .u8 0, .int .u8 0, .int .u8 0, .int .u8 0, .int .u8 0, .int .u8 0, .int .u8 0, .int .u8 0, .int .u8 0, .int .u8 0, .int .u8 0, .int .u8 0, .int .u8 0, .int .u8 0, .int .u8 0, .int .u8 0, .int .u8 0, .int .u8 0, .int .u8 0, .int .u8 0, .int .u8 0, .int .u8 0, .int .u8 0, .int .u8 0, .int .u8 0, .int .u8 0, .int .u8 0, .int .u8 0]] :: [row b4 23 (dc k)] :: [row b1 45 [.pointer (some ⟨gn, 0, none⟩), sv]] :: R) G (List.Subset.trans hG (subC (subC (subC (sub0))))) t hg gn true k hk hTr i hf hA9 ).mono ?_
    rintro e' w15 ⟨gf, rfl, ⟨hi, hNf⟩, hA16⟩
    refine ⟨_, rfl, fun a hF => hK _ _ ?_⟩
    clear hK K
    replace hA16 : Hp w0 ([row b7 25 [.int .i64 0, .int .u8 0, .int .u8 0, .int .u8 0, .int .u8 0, .int .u8 0, .int .u8 0, .int .u8 0, .int .u8 0, .int .u8 0, .int .u8 0, .int .u8 0, .int .u8 0, .int .u8 0, .int .u8 0, .int .u8 0, .int .u8 0, .int .u8 0, .int .u8 0, .int .u8 0, .int .u8 0, .int .u8 0, .int .u8 0, .int .u8 0, .int .u8 0, .int .u8 0, .int .u8 0, .int .u8 0, .int .u8 0, .int .u8 0, .int .u8 0, .int .u8 0, .int .u8 0]] :: [row b4 23 (dc k)] :: [row b1 45 [.pointer (some ⟨gn, 0, none⟩), sv]] :: R) w15 := hA16
    refine vc_y hF rfl rfl (by decide) _ (y_assign rfl rfl) (fun a hF => ?_)
    refine vc_nil ?_
    refine hK2 _ _ ?_; clear  hK2 K2
    apply wp_seq_k; intro K6 hK6
    apply wp_seq_k; intro K7 hK7
    refine wp_region_lit ?_
    refine vc_y hF rfl rfl (by decide) _ (y_move rfl rfl) (fun a hF => ?_)
    refine vc_y hF rfl rfl (by decide) _ (y_eqNil rfl (by kernel_rfl) rfl rfl) (fun a hF => ?_)
    refine vc_nil ?_
    refine hK7 _ _ ?_; clear  hK7 K7
    refine vc_false hF rfl ?_
    have hLf := NodeL.leaf hi
    have hel : (Value.int .i64 (getCt t.items k) :: dc (getCh t.items k)).length = 33 := by rw [hch, List.length_cons, dc_length, hi.ch]
    apply wp_skip
    refine hK6 _ _ ?_; clear  hK6 K6
    apply wp_seq_k; intro K8 hK8
    refine wp_region_lit ?_
    refine vc_y hF rfl rfl (by decide) _ (y_move rfl rfl) (fun a hF => ?_)
    refine vc_y hF rfl rfl (by decide) _ (y_nilCheck rfl rfl) (fun a hF => ?_)
    refine vc_y hF rfl rfl (by decide) _ (y_field rfl Tryd.underlying107 rfl sz25_s13 (by decide) rfl (rfl : (⟨_, 0 + _, none⟩ : Addr) = ⟨_, 32, none⟩)) (fun a hF => ?_)
    refine vc_y hF rfl rfl (by decide) _ (y_ldRowC rfl (Hq.sub hA16.q (List.Subset.trans hG (subC (subC (subC (sub0)))))) rfl hNf 32 (by rw [leafC_len hi]; decide) rfl (show List.take 33 (List.drop 32 (leafC i)) = .int .i64 (getCt t.items k) :: dc (getCh t.items k) by rw [hct, hch]; exact leafC_ent hi) rw25_s13) (fun a hF => ?_)
    refine vc_op rfl (fun K hK => hs_storeAll (new := .int .i64 (getCt t.items k) :: dc (getCh t.items k)) hF rfl rfl hA16 rfl rfl 0 rfl (by rw [hel]; rfl) (ent_one _ _) sz25_s13 (fun w17 hA18 => hK _ _ ?_))
    clear hK K
    replace hA18 : Hp w0 ([row b7 25 (.int .i64 (getCt t.items k) :: dc (getCh t.items k))] :: [row b4 23 (dc k)] :: [row b1 45 [.pointer (some ⟨gn, 0, none⟩), sv]] :: R) w17 := hA18
    refine vc_y hF rfl rfl (by decide) _ (y_assign rfl (show some (Value.bool true) = some (.bool (getL t.items k).isSome) by rw [hss])) (fun a hF => ?_)
    refine vc_nil ?_
    refine hK8 _ _ ?_; clear  hK8 K8
    apply wp_ret
    refine vc_retCT hF Tryd.results34 hA18.q rfl rfl 0 rfl (by rw [hel]; exact rw25_s13) ?_
    have hA19 : Hp w0 (R) w17 := Hp.sel [[row b7 25 (.int .i64 (getCt t.items k) :: dc (getCh t.items k))], [row b4 23 (dc k)], [row b1 45 [.pointer (some ⟨gn, 0, none⟩), sv]]] R [] [0, 1, 2] hA18 rfl
    exact ⟨rfl, hA19⟩

set_option maxRecDepth 100000 in
set_option maxHeartbeats 2000000 in
theorem rt_getN (w0 w : World) (R : List Seg) (k : List UInt8) (hk : k.length = 32) (hA : Hp w0 R w) : Calls Tryd.prog 34 #[.agg ([.pointer none, .slice none 0 0] : List Value).toArray, .agg (dc k).toArray] w fun e w' => e = .returned (.tuple #[.agg (.int .i64 (getCt [] k) :: dc (getCh [] k)).toArray, .bool (getL [] k).isSome]) ∧ Hp w0 R w' := by
  have hdk : (dc k).length = 32 := by rw [dc_length, hk]
  refine vc_enter Tryd.func34 rfl Tryd.ntmps34 (Nat.le_of_ble_eq_true rfl) (fun a hF => ?_)
  apply wp_seq_k; intro K1 hK1
  refine wp_region_lit ?_
  refine vc_op rfl (fun K hK => hs_box (cs := [.pointer none, .slice none 0 0]) hF rfl (by decide) rfl hA rfl (fun b1 w2 a hb1 hF hA3 => hK _ _ ?_))
  clear hK K
  replace hA3 : Hp w0 ([row b1 45 [.pointer none, .slice none 0 0]] :: R) w2 := hA3
  refine vc_op rfl (fun K hK => hs_box (cs := dc k) hF rfl (by decide) rfl hA3 rfl (fun b4 w5 a hb4 hF hA6 => hK _ _ ?_))
  clear hK K
  replace hA6 : Hp w0 ([row b4 23 (dc k)] :: [row b1 45 [.pointer none, .slice none 0 0]] :: R) w5 := hA6
  refine vc_op rfl (fun K hK => hs_alloc hF rfl (by decide) rfl hA6 (zr25_s13) (fun b7 w8 a hb7 hF hA9 => hK _ _ ?_))
  clear hK K
  replace hA9 : Hp w0 ([row b7 25 [.int .i64 0, .int .u8 0, .int .u8 0, .int .u8 0, .int .u8 0, .int .u8 0, .int .u8 0, .int .u8 0, .int .u8 0, .int .u8 0, .int .u8 0, .int .u8 0, .int .u8 0, .int .u8 0, .int .u8 0, .int .u8 0, .int .u8 0, .int .u8 0, .int .u8 0, .int .u8 0, .int .u8 0, .int .u8 0, .int .u8 0, .int .u8 0, .int .u8 0, .int .u8 0, .int .u8 0, .int .u8 0, .int .u8 0, .int .u8 0, .int .u8 0, .int .u8 0, .int .u8 0]] :: [row b4 23 (dc k)] :: [row b1 45 [.pointer none, .slice none 0 0]] :: R) w8 := hA9
  refine vc_y hF rfl rfl (by decide) _ (y_assign rfl rfl) (fun a hF => ?_)
  refine vc_nil ?_
  refine hK1 _ _ ?_; clear  hK1 K1
  apply wp_seq_k; intro K2 hK2
  have hfk : getL [] k = none := rfl
  have hct := getCt_none hfk
  have hch := getCh_none hfk
  have hss : (getL [] k).isSome = false := by rw [hfk]; rfl
  have hel : (Value.int .i64 (getCt [] k) :: dc (getCh [] k)).length = 33 := by rw [hch]; rfl
  refine wp_region_lit ?_
  refine vc_y hF rfl rfl (by decide) _ (y_field rfl Tryd.underlying45 rfl sz43_s13 (by decide) rfl (rfl : (⟨_, 0 + _, none⟩ : Addr) = ⟨_, 0, none⟩)) (fun a hF => ?_)
  refine vc_y hF rfl rfl (by decide) _ (y_ld rfl hA9.q rfl 2 rfl rfl nr43_s13) (fun a hF => ?_)
  refine vc_y hF rfl rfl (by decide) _ (y_ldRow (new := dc k) rfl hA9.q rfl 1 rfl rw23_s13 (by rw [hdk]; exact Nat.le_refl _) (by rw [List.drop_zero]; exact List.take_of_length_le (by rw [hdk]; exact Nat.le_refl _))) (fun a hF => ?_)
  refine vc_op rfl (fun K hK => ws_call hF rfl (by decide) cl64_s13 rfl rfl ?_)
  with_reducible refine (rt_find0 w0 _ ([row b7 25 [.int .i64 0, .int .u8 0, .int .u8 0, .int .u8 0, .int .u8 0, .int .u8 0, .int .u8 0, .int .u8 0, .int .u8 0, .int .u8 0, .int .u8 0, .int .u8 0, .int .u8 0, .int .u8 0, .int .u8 0, .int .u8 0, .int .u8 0, .int .u8 0, .int .u8 0, .int .u8 0, .int .u8 0, .int .u8 0, .int .u8 0, .int .u8 0, .int .u8 0, .int .u8 0, .int .u8 0, .int .u8 0, .int .u8 0, .int .u8 0, .int .u8 0, .int .u8 0, .int .u8 0]] :: [row b4 23 (dc k)] :: [row b1 45 [.pointer none, .slice none 0 0]] :: R) k hA9 ).mono ?_
  rintro e' w10 ⟨rfl, hA11⟩
  refine ⟨_, rfl, fun a hF => hK _ _ ?_⟩
  clear hK K
  replace hA11 : Hp w0 ([row b7 25 [.int .i64 0, .int .u8 0, .int .u8 0, .int .u8 0, .int .u8 0, .int .u8 0, .int .u8 0, .int .u8 0, .int .u8 0, .int .u8 0, .int .u8 0, .int .u8 0, .int .u8 0, .int .u8 0, .int .u8 0, .int .u8 0, .int .u8 0, .int .u8 0, .int .u8 0, .int .u8 0, .int .u8 0, .int .u8 0, .int .u8 0, .int .u8 0, .int .u8 0, .int .u8 0, .int .u8 0, .int .u8 0, .int .u8 0, .int .u8 0, .int .u8 0, .int .u8 0, .int .u8 0]] :: [row b4 23 (dc k)] :: [row b1 45 [.pointer none, .slice none 0 0]] :: R) w10 := hA11
  refine vc_y hF rfl rfl (by decide) _ (y_assign rfl rfl) (fun a hF => ?_)
  refine vc_nil ?_
  refine hK2 _ _ ?_; clear  hK2 K2
  apply wp_seq_k; intro K3 hK3
  apply wp_seq_k; intro K4 hK4
  refine wp_region_lit ?_
  refine vc_y hF rfl rfl (by decide) _ (y_move rfl rfl) (fun a hF => ?_)
  refine vc_y hF rfl rfl (by decide) _ (y_eqNilT rfl (by kernel_rfl) rfl rfl) (fun a hF => ?_)
  refine vc_nil ?_
  refine hK4 _ _ ?_; clear  hK4 K4
  refine vc_true hF rfl ?_
  apply wp_seq_k; intro K5 hK5
  refine wp_region_lit ?_
  refine vc_y hF rfl rfl (by decide) _ (y_build (v := .agg (.int .i64 (getCt [] k) :: dc (getCh [] k)).toArray) (qs := #[]) rfl rfl (by intro w; rw [hct, hch]; exact rt_ent0 w)) (fun a hF => ?_)
  refine vc_op rfl (fun K hK => hs_storeAll (new := .int .i64 (getCt [] k) :: dc (getCh [] k)) hF rfl rfl hA11 rfl rfl 0 rfl (by rw [hel]; rfl) (ent_one _ _) sz25_s13 (fun w12 hA13 => hK _ _ ?_))
  clear hK K
  replace hA13 : Hp w0 ([row b7 25 (.int .i64 (getCt [] k) :: dc (getCh [] k))] :: [row b4 23 (dc k)] :: [row b1 45 [.pointer none, .slice none 0 0]] :: R) w12 := hA13
  refine vc_y hF rfl rfl (by decide) _ (y_assign rfl (show some (Value.bool false) = some (.bool (getL [] k).isSome) by rw [hss])) (fun a hF => ?_)
  refine vc_nil ?_
  refine hK5 _ _ ?_; clear  hK5 K5
  apply wp_ret
  simp only [Exit.then]
  refine vc_retCT hF Tryd.results34 hA13.q rfl rfl 0 rfl (by rw [hel]; exact rw25_s13) ?_
  have hA14 : Hp w0 (R) w12 := Hp.sel [[row b7 25 (.int .i64 (getCt [] k) :: dc (getCh [] k))], [row b4 23 (dc k)], [row b1 45 [.pointer none, .slice none 0 0]]] R [] [0, 1, 2] hA13 rfl
  exact ⟨rfl, hA14⟩

set_option maxRecDepth 100000 in
set_option maxHeartbeats 2000000 in
theorem rt_rootS (w0 w : World) (R G : List Seg) (hG : G ⊆ R) (t : Rx) (hg : t.Good) (gn : Nat) (hTr : Tr w0 G true t gn) (ad : Addr) (c : Nat) (hcb : 257 ≤ c) (hRc : Rc w0 G (some ad) (digs (emptyL 32) 257)) (width : Int) (hT : Tab w0) (hA : Hp w0 R w) : Calls Tryd.prog 18 #[.agg ([.pointer (some ⟨gn, 0, none⟩), .slice (some ad) 257 c] : List Value).toArray, .int .i64 width] w fun e w' => e = .returned (.agg (dc (subE width 256 t.items)).toArray) ∧ Hp w0 R w' := by
  refine vc_enter Tryd.func18 rfl Tryd.ntmps18 (Nat.le_of_ble_eq_true rfl) (fun a hF => ?_)
  apply wp_seq_k; intro K1 hK1
  refine wp_region_lit ?_
  refine vc_op rfl (fun K hK => hs_box (cs := [.pointer (some ⟨gn, 0, none⟩), .slice (some ad) 257 c]) hF rfl (by decide) rfl hA rfl (fun b1 w2 a hb1 hF hA3 => hK _ _ ?_))
  clear hK K
  replace hA3 : Hp w0 ([row b1 45 [.pointer (some ⟨gn, 0, none⟩), .slice (some ad) 257 c]] :: R) w2 := hA3
  refine vc_op rfl (fun K hK => hs_alloc hF rfl (by decide) rfl hA3 (zr23_s13) (fun b4 w5 a hb4 hF hA6 => hK _ _ ?_))
  clear hK K
  replace hA6 : Hp w0 ([row b4 23 (dc (List.replicate 32 0))] :: [row b1 45 [.pointer (some ⟨gn, 0, none⟩), .slice (some ad) 257 c]] :: R) w5 := hA6
  refine vc_nil ?_
  refine hK1 _ _ ?_; clear  hK1 K1
  apply wp_seq_k; intro K2 hK2
  refine wp_region_lit ?_
  refine vc_y hF rfl rfl (by decide) _ (y_move rfl rfl) (fun a hF => ?_)
  refine vc_y hF rfl rfl (by decide) _ (y_field rfl Tryd.underlying45 rfl sz26_s13 (by decide) rfl (rfl : (⟨_, 0 + _, none⟩ : Addr) = ⟨_, 1, none⟩)) (fun a hF => ?_)
  refine vc_y hF rfl rfl (by decide) _ (y_ld rfl hA6.q rfl 1 rfl rfl nr26_s13) (fun a hF => ?_)
  refine vc_op rfl (fun K hK => ws_call hF rfl (by decide) cl54_s13 rfl rfl ?_)
  with_reducible refine (rt_atS w0 _ ([row b4 23 (dc (List.replicate 32 0))] :: [row b1 45 [.pointer (some ⟨gn, 0, none⟩), .slice (some ad) 257 c]] :: R) G width ad c hcb hRc hT hA6 ).mono ?_
  rintro e' w7 ⟨gs, SX, rfl, hSm2, hA8⟩
  refine ⟨_, rfl, fun a hF => hK _ _ ?_⟩
  clear hK K
  replace hA8 : Hp w0 (SX :: [row b4 23 (dc (List.replicate 32 0))] :: [row b1 45 [.pointer (some ⟨gn, 0, none⟩), .slice (some ad) 257 c]] :: R) w7 := hA8
  have hSm := hSm2.sm
  refine vc_y hF rfl rfl (by decide) _ (y_assign rfl rfl) (fun a hF => ?_)
  refine vc_nil ?_
  refine hK2 _ _ ?_; clear  hK2 K2
  apply wp_seq_k; intro K3 hK3
  apply wp_seq_k; intro K4 hK4
  refine wp_region_lit ?_
  refine vc_y hF rfl rfl (by decide) _ (y_field rfl Tryd.underlying45 rfl sz43_s13 (by decide) rfl (rfl : (⟨_, 0 + _, none⟩ : Addr) = ⟨_, 0, none⟩)) (fun a hF => ?_)
  refine vc_y hF rfl rfl (by decide) _ (y_ld rfl hA8.q rfl 2 rfl rfl nr43_s13) (fun a hF => ?_)
  refine vc_y hF rfl rfl (by decide) _ (y_eqNil rfl (by kernel_rfl) rfl rfl) (fun a hF => ?_)
  refine vc_nil ?_
  refine hK4 _ _ ?_; clear  hK4 K4
  refine vc_false hF rfl ?_
  have hres : t.lift (min (max width 1) 32) 256 = subE width 256 t.items := by rw [Rx.lift_sub hg (by omega) (Nat.le_refl _), subE_clamp]
  have hdl : (dc (subE width 256 t.items)).length = 32 := by rw [← hres, dc_length, Rx.lift_length]
  apply wp_skip
  refine hK3 _ _ ?_; clear  hK3 K3
  apply wp_seq_k; intro K5 hK5
  refine wp_region_lit ?_
  refine vc_y hF rfl rfl (by decide) _ (y_move rfl rfl) (fun a hF => ?_)
  refine vc_y hF rfl rfl (by decide) _ (y_field rfl Tryd.underlying45 rfl sz43_s13 (by decide) rfl (rfl : (⟨_, 0 + _, none⟩ : Addr) = ⟨_, 0, none⟩)) (fun a hF => ?_)
  refine vc_y hF rfl rfl (by decide) _ (y_ld rfl hA8.q rfl 2 rfl rfl nr43_s13) (fun a hF => ?_)
  refine vc_op rfl (fun K hK => ws_call hF rfl (by decide) cl55_s13 rfl rfl ?_)
  with_reducible refine (rt_lift256 w0 _ (SX :: [row b4 23 (dc (List.replicate 32 0))] :: [row b1 45 [.pointer (some ⟨gn, 0, none⟩), .slice (some ad) 257 c]] :: R) (SX :: G) (sub_cons2 ((List.mem_cons_self ..)) (List.Subset.trans hG (subC (subC (subC (sub0)))))) t hg gn gs (min (max width 1) 32) hSm (hTr.mono (List.subset_cons_of_subset _ (List.Subset.refl _))) hT hA8 ).mono ?_
  rintro e' w9 ⟨rfl, hA10⟩
  refine ⟨_, rfl, fun a hF => hK _ _ ?_⟩
  clear hK K
  replace hA10 : Hp w0 (SX :: [row b4 23 (dc (List.replicate 32 0))] :: [row b1 45 [.pointer (some ⟨gn, 0, none⟩), .slice (some ad) 257 c]] :: R) w9 := hA10
  rw [hres] at hF
  refine vc_op rfl (fun K hK => hs_storeAll (new := dc (subE width 256 t.items)) hF rfl rfl hA10 rfl rfl 1 rfl (by rw [hdl]; rfl) (dc_one _) sz23_s13 (fun w11 hA12 => hK _ _ ?_))
  clear hK K
  replace hA12 : Hp w0 (SX :: [row b4 23 (dc (subE width 256 t.items))] :: [row b1 45 [.pointer (some ⟨gn, 0, none⟩), .slice (some ad) 257 c]] :: R) w11 := hA12
  refine vc_nil ?_
  refine hK5 _ _ ?_; clear  hK5 K5
  apply wp_ret
  refine vc_retR hF Tryd.results18 hA12.q rfl 1 rfl (by rw [hdl]; exact rw23_s13) ?_
  have hA13 : Hp w0 (R) w11 := Hp.sel [SX, [row b4 23 (dc (subE width 256 t.items))], [row b1 45 [.pointer (some ⟨gn, 0, none⟩), .slice (some ad) 257 c]]] R [] [0, 1, 2] hA12 rfl
  exact ⟨rfl, hA13⟩

set_option maxRecDepth 100000 in
set_option maxHeartbeats 2000000 in
theorem rt_rootN (w0 w : World) (R : List Seg) (width : Int) (hT : Tab w0) (hA : Hp w0 R w) : Calls Tryd.prog 18 #[.agg ([.pointer none, .slice none 0 0] : List Value).toArray, .int .i64 width] w fun e w' => e = .returned (.agg (dc (subE width 256 [])).toArray) ∧ Hp w0 R w' := by
  refine vc_enter Tryd.func18 rfl Tryd.ntmps18 (Nat.le_of_ble_eq_true rfl) (fun a hF => ?_)
  apply wp_seq_k; intro K1 hK1
  refine wp_region_lit ?_
  refine vc_op rfl (fun K hK => hs_box (cs := [.pointer none, .slice none 0 0]) hF rfl (by decide) rfl hA rfl (fun b1 w2 a hb1 hF hA3 => hK _ _ ?_))
  clear hK K
  replace hA3 : Hp w0 ([row b1 45 [.pointer none, .slice none 0 0]] :: R) w2 := hA3
  refine vc_op rfl (fun K hK => hs_alloc hF rfl (by decide) rfl hA3 (zr23_s13) (fun b4 w5 a hb4 hF hA6 => hK _ _ ?_))
  clear hK K
  replace hA6 : Hp w0 ([row b4 23 (dc (List.replicate 32 0))] :: [row b1 45 [.pointer none, .slice none 0 0]] :: R) w5 := hA6
  refine vc_nil ?_
  refine hK1 _ _ ?_; clear  hK1 K1
  apply wp_seq_k; intro K2 hK2
  refine wp_region_lit ?_
  refine vc_y hF rfl rfl (by decide) _ (y_move rfl rfl) (fun a hF => ?_)
  refine vc_y hF rfl rfl (by decide) _ (y_field rfl Tryd.underlying45 rfl sz26_s13 (by decide) rfl (rfl : (⟨_, 0 + _, none⟩ : Addr) = ⟨_, 1, none⟩)) (fun a hF => ?_)
  refine vc_y hF rfl rfl (by decide) _ (y_ld rfl hA6.q rfl 1 rfl rfl nr26_s13) (fun a hF => ?_)
  refine vc_op rfl (fun K hK => ws_call hF rfl (by decide) cl54_s13 rfl rfl ?_)
  with_reducible refine (rt_atN w0 _ ([row b4 23 (dc (List.replicate 32 0))] :: [row b1 45 [.pointer none, .slice none 0 0]] :: R) width hT hA6 ).mono ?_
  rintro e' w7 ⟨gs, SX, rfl, hSm2, hA8⟩
  refine ⟨_, rfl, fun a hF => hK _ _ ?_⟩
  clear hK K
  replace hA8 : Hp w0 (SX :: [row b4 23 (dc (List.replicate 32 0))] :: [row b1 45 [.pointer none, .slice none 0 0]] :: R) w7 := hA8
  have hSm := hSm2.sm
  refine vc_y hF rfl rfl (by decide) _ (y_assign rfl rfl) (fun a hF => ?_)
  refine vc_nil ?_
  refine hK2 _ _ ?_; clear  hK2 K2
  apply wp_seq_k; intro K3 hK3
  apply wp_seq_k; intro K4 hK4
  refine wp_region_lit ?_
  refine vc_y hF rfl rfl (by decide) _ (y_field rfl Tryd.underlying45 rfl sz43_s13 (by decide) rfl (rfl : (⟨_, 0 + _, none⟩ : Addr) = ⟨_, 0, none⟩)) (fun a hF => ?_)
  refine vc_y hF rfl rfl (by decide) _ (y_ld rfl hA8.q rfl 2 rfl rfl nr43_s13) (fun a hF => ?_)
  refine vc_y hF rfl rfl (by decide) _ (y_eqNilT rfl (by kernel_rfl) rfl rfl) (fun a hF => ?_)
  refine vc_nil ?_
  refine hK4 _ _ ?_; clear  hK4 K4
  refine vc_true hF rfl ?_
  obtain ⟨AE, cE, wb, hs1, hs2, hs3⟩ := hSm
  have hdle := emptyL_length (min (max width 1) 32)
  obtain ⟨herd, hele⟩ := digs_rd (emptyL (min (max width 1) 32)) 257 256 (fun i _ => hdle i) (by decide)
  obtain ⟨be_, qe, hAE, hce⟩ := hs3.ne (i := 256 * 32) (by omega)
  have hres : emptyL (min (max width 1) 32) 256 = subE width 256 [] := by rw [subE_nil, emptyL_clamp]
  have hdl : (dc (subE width 256 [])).length = 32 := by rw [← hres, dc_length, hdle]
  apply wp_seq_k; intro K5 hK5
  refine wp_region_lit ?_
  refine vc_y hF rfl rfl (by decide) _ (y_move rfl rfl) (fun a hF => ?_)
  refine vc_y hF rfl rfl (by decide) _ (y_nilCheck rfl rfl) (fun a hF => ?_)
  refine vc_y hF rfl rfl (by decide) _ (y_field rfl Tryd.underlying102 rfl sz26_s13 (by decide) rfl (rfl : (⟨_, 0 + _, none⟩ : Addr) = ⟨_, 1, none⟩)) (fun a hF => ?_)
  refine vc_y hF rfl rfl (by decide) _ (y_ldC rfl (Hq.sub hA8.q (sub1 ((List.mem_cons_self ..)))) rfl hs1 1 (by simp) rfl rfl nr26_s13) (fun a hF => ?_)
  refine vc_y hF rfl rfl (by decide) _ (y_ixSl rfl Tryd.underlying26 sz23_s13 (by exact congrArg (fun A => some (Value.slice A 257 cE)) hAE) rfl 256 rfl (by decide) rfl) (fun a hF => ?_)
  refine vc_y hF rfl rfl (by decide) _ (y_ldRowC rfl (Hq.sub hA8.q (sub1 ((List.mem_cons_self ..)))) rfl hce (256 * 32) hele rfl (show _ = dc (subE width 256 []) by rw [← hres]; exact herd) rw23_s13) (fun a hF => ?_)
  refine vc_op rfl (fun K hK => hs_storeAll (new := dc (subE width 256 [])) hF rfl rfl hA8 rfl rfl 1 rfl (by rw [hdl]; rfl) (dc_one _) sz23_s13 (fun w9 hA10 => hK _ _ ?_))
  clear hK K
  replace hA10 : Hp w0 (SX :: [row b4 23 (dc (subE width 256 []))] :: [row b1 45 [.pointer none, .slice none 0 0]] :: R) w9 := hA10
  refine vc_nil ?_
  refine hK5 _ _ ?_; clear  hK5 K5
  apply wp_ret
  simp only [Exit.then]
  refine vc_retR hF Tryd.results18 hA10.q rfl 1 rfl (by rw [hdl]; exact rw23_s13) ?_
  have hA11 : Hp w0 (R) w9 := Hp.sel [SX, [row b4 23 (dc (subE width 256 []))], [row b1 45 [.pointer none, .slice none 0 0]]] R [] [0, 1, 2] hA10 rfl
  exact ⟨rfl, hA11⟩

set_option maxRecDepth 100000 in
set_option maxHeartbeats 2000000 in
theorem rt_tputN (w0 w : World) (R : List Seg) (i : Itm) (hi : i.OK) (hct : 1 ≤ i.ct ∧ i.ct ≤ 1099511627776) (hT : Tab w0) (hA : Hp w0 R w) : Calls Tryd.prog 22 #[.agg ([.pointer none, .slice none 0 0] : List Value).toArray, .agg (dc i.k).toArray, .agg (.int .i64 i.ct :: dc i.ch).toArray] w fun e w' => ∃ gn A c X, e = .returned (.tuple #[.agg ([.pointer (some ⟨gn, 0, none⟩), .slice A 257 c] : List Value).toArray, .int .i64 0]) ∧ Rc w0 [X] A (digs (emptyL 32) 257) ∧ 257 ≤ c ∧ Hp w0 ([row gn 107 (leafC i)] :: X :: R) w' := by
  have hdk : (dc i.k).length = 32 := by rw [dc_length, hi.k]
  have hde : (Value.int .i64 i.ct :: dc i.ch).length = 33 := by rw [List.length_cons, dc_length, hi.ch]
  refine vc_enter Tryd.func22 rfl Tryd.ntmps22 (Nat.le_of_ble_eq_true rfl) (fun a hF => ?_)
  apply wp_seq_k; intro K1 hK1
  refine wp_region_lit ?_
  refine vc_op rfl (fun K hK => hs_box (cs := [.pointer none, .slice none 0 0]) hF rfl (by decide) rfl hA rfl (fun b1 w2 a hb1 hF hA3 => hK _ _ ?_))
  clear hK K
  replace hA3 : Hp w0 ([row b1 45 [.pointer none, .slice none 0 0]] :: R) w2 := hA3
  refine vc_op rfl (fun K hK => hs_box (cs := dc i.k) hF rfl (by decide) rfl hA3 rfl (fun b4 w5 a hb4 hF hA6 => hK _ _ ?_))
  clear hK K
  replace hA6 : Hp w0 ([row b4 23 (dc i.k)] :: [row b1 45 [.pointer none, .slice none 0 0]] :: R) w5 := hA6
  refine vc_op rfl (fun K hK => hs_box (cs := .int .i64 i.ct :: dc i.ch) hF rfl (by decide) rfl hA6 rfl (fun b7 w8 a hb7 hF hA9 => hK _ _ ?_))
  clear hK K
  replace hA9 : Hp w0 ([row b7 25 (.int .i64 i.ct :: dc i.ch)] :: [row b4 23 (dc i.k)] :: [row b1 45 [.pointer none, .slice none 0 0]] :: R) w8 := hA9
  refine vc_op rfl (fun K hK => hs_alloc hF rfl (by decide) rfl hA9 (zr45_s13) (fun b10 w11 a hb10 hF hA12 => hK _ _ ?_))
  clear hK K
  replace hA12 : Hp w0 ([row b10 45 [.pointer none, .slice none 0 0]] :: [row b7 25 (.int .i64 i.ct :: dc i.ch)] :: [row b4 23 (dc i.k)] :: [row b1 45 [.pointer none, .slice none 0 0]] :: R) w11 := hA12
  refine vc_y hF rfl rfl (by decide) _ (y_assign rfl rfl) (fun a hF => ?_)
  refine vc_nil ?_
  refine hK1 _ _ ?_; clear  hK1 K1
  apply wp_seq_k; intro K2 hK2
  apply wp_seq_k; intro K3 hK3
  refine wp_region_lit ?_
  refine vc_y hF rfl rfl (by decide) _ (y_ldRow (new := .int .i64 i.ct :: dc i.ch) rfl hA12.q rfl 1 rfl rw25_s13 (by rw [hde]; exact Nat.le_refl _) (by rw [List.drop_zero]; exact List.take_of_length_le (by rw [hde]; exact Nat.le_refl _))) (fun a hF => ?_)
  refine vc_op rfl (fun K hK => ws_call hF rfl (by decide) cl56_s13 rfl rfl ?_)
  with_reducible refine (sp_counted w0 _ ([row b10 45 [.pointer none, .slice none 0 0]] :: [row b7 25 (.int .i64 i.ct :: dc i.ch)] :: [row b4 23 (dc i.k)] :: [row b1 45 [.pointer none, .slice none 0 0]] :: R) i.ct i.ch hA12 ).mono ?_
  rintro e' w13 ⟨rfl, hA14⟩
  refine ⟨_, rfl, fun a hF => hK _ _ ?_⟩
  clear hK K
  replace hA14 : Hp w0 ([row b10 45 [.pointer none, .slice none 0 0]] :: [row b7 25 (.int .i64 i.ct :: dc i.ch)] :: [row b4 23 (dc i.k)] :: [row b1 45 [.pointer none, .slice none 0 0]] :: R) w13 := hA14
  rw [decide_eq_true hct] at hF
  refine vc_y hF rfl rfl (by decide) _ (y_not rfl rfl rfl) (fun a hF => ?_)
  refine vc_nil ?_
  refine hK3 _ _ ?_; clear  hK3 K3
  refine vc_false hF rfl ?_
  apply wp_skip
  refine hK2 _ _ ?_; clear  hK2 K2
  apply wp_seq_k; intro K4 hK4
  refine wp_region_lit ?_
  refine vc_y hF rfl rfl (by decide) _ (y_field rfl Tryd.underlying45 rfl sz26_s13 (by decide) rfl (rfl : (⟨_, 0 + _, none⟩ : Addr) = ⟨_, 1, none⟩)) (fun a hF => ?_)
  refine vc_y hF rfl rfl (by decide) _ (y_ld rfl hA14.q rfl 3 rfl rfl nr26_s13) (fun a hF => ?_)
  refine vc_op rfl (fun K hK => ws_call hF rfl (by decide) cl54_s13 rfl rfl ?_)
  with_reducible refine (rt_at0 w0 _ ([row b10 45 [.pointer none, .slice none 0 0]] :: [row b7 25 (.int .i64 i.ct :: dc i.ch)] :: [row b4 23 (dc i.k)] :: [row b1 45 [.pointer none, .slice none 0 0]] :: R) 32 32 (by decide) hT hA14 ).mono ?_
  rintro e' w15 ⟨gs, wb, A, c, X, rfl, hRc, hcb, hA16⟩
  refine ⟨_, rfl, fun a hF => hK _ _ ?_⟩
  clear hK K
  replace hA16 : Hp w0 ([row gs 102 [.int .i64 32, .slice A 257 c, .func (.func 82) #[] #[.pointer (some ⟨wb, 0, none⟩)]]] :: [row wb 3 [.int .i64 32]] :: X :: [row b10 45 [.pointer none, .slice none 0 0]] :: [row b7 25 (.int .i64 i.ct :: dc i.ch)] :: [row b4 23 (dc i.k)] :: [row b1 45 [.pointer none, .slice none 0 0]] :: R) w15 := hA16
  refine vc_y hF rfl rfl (by decide) _ (y_assign rfl rfl) (fun a hF => ?_)
  refine vc_nil ?_
  refine hK4 _ _ ?_; clear  hK4 K4
  apply wp_seq_k; intro K5 hK5
  refine wp_region_plan 11 [5,11,12] [0,1,2,3,4,6,7,8,9,5,10,11,12] (fun x => Hq w0 ([row gs 102 [.int .i64 32, .slice A 257 c, .func (.func 82) #[] #[.pointer (some ⟨wb, 0, none⟩)]]] :: [row wb 3 [.int .i64 32]] :: X :: [row b10 45 [.pointer none, .slice none 0 0]] :: [row b7 25 (.int .i64 i.ct :: dc i.ch)] :: [row b4 23 (dc i.k)] :: [row b1 45 [.pointer none, .slice none 0 0]] :: R) x) (by kernel_rfl) (by kernel_rfl) (Hq.drew (Hp.qp [[row gs 102 [.int .i64 32, .slice A 257 c, .func (.func 82) #[] #[.pointer (some ⟨wb, 0, none⟩)]]], [row wb 3 [.int .i64 32]], X, [row b10 45 [.pointer none, .slice none 0 0]], [row b7 25 (.int .i64 i.ct :: dc i.ch)], [row b4 23 (dc i.k)], [row b1 45 [.pointer none, .slice none 0 0]]] R [0, 1, 2, 3, 4, 5, 6] hA16)) ?_
  have hA17 := Hl.drew hA16
  refine vp_y hF rfl rfl rfl rfl (by decide) _ (fun x hx => y_field rfl Tryd.underlying45 rfl sz43_s13 (by decide) rfl (rfl : (⟨_, 0 + _, none⟩ : Addr) = ⟨_, 0, none⟩)) (fun a hF => ?_)
  refine vp_y hF rfl rfl rfl rfl (by decide) _ (fun x hx => y_ld rfl hx rfl 6 rfl rfl nr43_s13) (fun a hF => ?_)
  refine vp_y hF rfl rfl rfl rfl (by decide) _ (fun x hx => y_ldRow (new := dc i.k) rfl hx rfl 5 rfl rw23_s13 (by rw [hdk]; exact Nat.le_refl _) (by rw [List.drop_zero]; exact List.take_of_length_le (by rw [hdk]; exact Nat.le_refl _))) (fun a hF => ?_)
  refine vp_y hF rfl rfl rfl rfl (by decide) _ (fun x hx => y_ldRow (new := .int .i64 i.ct :: dc i.ch) rfl hx rfl 4 rfl rw25_s13 (by rw [hde]; exact Nat.le_refl _) (by rw [List.drop_zero]; exact List.take_of_length_le (by rw [hde]; exact Nat.le_refl _))) (fun a hF => ?_)
  refine vp_y hF rfl rfl rfl rfl (by decide) _ (fun x hx => y_move rfl rfl) (fun a hF => ?_)
  refine vp_y hF rfl rfl rfl rfl (by decide) _ (fun x hx => y_move rfl rfl) (fun a hF => ?_)
  refine vp_y hF rfl rfl rfl rfl (by decide) _ (fun x hx => y_nilCheck rfl rfl) (fun a hF => ?_)
  refine vp_y hF rfl rfl rfl rfl (by decide) _ (fun x hx => y_field rfl Tryd.underlying102 rfl sz26_s13 (by decide) rfl (rfl : (⟨_, 0 + _, none⟩ : Addr) = ⟨_, 1, none⟩)) (fun a hF => ?_)
  refine vp_y hF rfl rfl rfl rfl (by decide) _ (fun x hx => y_ld rfl hx rfl 0 rfl rfl nr26_s13) (fun a hF => ?_)
  refine vp_l rfl rfl rfl (fun K hK => ws_call hF rfl (by decide) cl57_s13 rfl rfl ?_)
  with_reducible refine (rx_put0 w0 _ ([row gs 102 [.int .i64 32, .slice A 257 c, .func (.func 82) #[] #[.pointer (some ⟨wb, 0, none⟩)]]] :: [row wb 3 [.int .i64 32]] :: X :: [row b10 45 [.pointer none, .slice none 0 0]] :: [row b7 25 (.int .i64 i.ct :: dc i.ch)] :: [row b4 23 (dc i.k)] :: [row b1 45 [.pointer none, .slice none 0 0]] :: R) i hi _ hA17 ).mono ?_
  rintro e' w18 ⟨gn, rfl, hA19⟩
  refine ⟨_, rfl, fun a hF => hK _ _ (fun _ => ?_) ?_⟩
  · exact Hp.qp [[row gn 107 (leafC i)], [row gs 102 [.int .i64 32, .slice A 257 c, .func (.func 82) #[] #[.pointer (some ⟨wb, 0, none⟩)]]], [row wb 3 [.int .i64 32]], X, [row b10 45 [.pointer none, .slice none 0 0]], [row b7 25 (.int .i64 i.ct :: dc i.ch)], [row b4 23 (dc i.k)], [row b1 45 [.pointer none, .slice none 0 0]]] R [1, 2, 3, 4, 5, 6, 7] hA19
  clear hK K
  replace hA19 : Hp w0 ([row gn 107 (leafC i)] :: [row gs 102 [.int .i64 32, .slice A 257 c, .func (.func 82) #[] #[.pointer (some ⟨wb, 0, none⟩)]]] :: [row wb 3 [.int .i64 32]] :: X :: [row b10 45 [.pointer none, .slice none 0 0]] :: [row b7 25 (.int .i64 i.ct :: dc i.ch)] :: [row b4 23 (dc i.k)] :: [row b1 45 [.pointer none, .slice none 0 0]] :: R) w18 := hA19
  refine vp_y hF rfl rfl rfl rfl (by decide) _ (fun x hx => y_build (qs := #[(0, .pointer (some ⟨gn, 0, none⟩)), (1, .slice A 257 c)]) rfl rfl (rx_build2 _ _ _)) (fun a hF => ?_)
  refine vp_l rfl rfl rfl (fun K hK => hs_storeAll (new := [.pointer (some ⟨gn, 0, none⟩), .slice A 257 c]) hF rfl rfl hA19 rfl rfl 4 rfl rfl (by simp [Value.oneCell']) sz45_s13 (fun w20 hA21 => hK _ _ (fun h => absurd h (by decide)) ?_))
  clear hK K
  replace hA21 : Hp w0 ([row gn 107 (leafC i)] :: [row gs 102 [.int .i64 32, .slice A 257 c, .func (.func 82) #[] #[.pointer (some ⟨wb, 0, none⟩)]]] :: [row wb 3 [.int .i64 32]] :: X :: [row b10 45 [.pointer (some ⟨gn, 0, none⟩), .slice A 257 c]] :: [row b7 25 (.int .i64 i.ct :: dc i.ch)] :: [row b4 23 (dc i.k)] :: [row b1 45 [.pointer none, .slice none 0 0]] :: R) w20 := hA21
  refine vp_ly hF rfl rfl rfl rfl (by decide) _ (y_assign rfl rfl) (fun h => absurd h (by decide)) (fun a hF => ?_)
  refine plan_end ?_
  refine hK5 _ _ ?_; clear  hK5 K5
  apply wp_ret
  refine vc_retCT hF Tryd.results22 hA21.q rfl rfl 4 rfl rw45_s13 ?_
  have hA22 : Hp w0 ([row gn 107 (leafC i)] :: X :: R) w20 := Hp.sel [[row gn 107 (leafC i)], [row gs 102 [.int .i64 32, .slice A 257 c, .func (.func 82) #[] #[.pointer (some ⟨wb, 0, none⟩)]]], [row wb 3 [.int .i64 32]], X, [row b10 45 [.pointer (some ⟨gn, 0, none⟩), .slice A 257 c]], [row b7 25 (.int .i64 i.ct :: dc i.ch)], [row b4 23 (dc i.k)], [row b1 45 [.pointer none, .slice none 0 0]]] R [0, 3] [1, 2, 4, 5, 6, 7] hA21 rfl
  exact ⟨gn, A, c, X, rfl, hRc, hcb, hA22⟩

set_option maxRecDepth 100000 in
set_option maxHeartbeats 2000000 in
theorem rt_tputS (w0 w : World) (R G : List Seg) (hG : G ⊆ R) (t : Rx) (hg : t.Good) (gn : Nat) (hTr : Tr w0 G true t gn) (hsz : t.size ≤ 100000) (ad : Addr) (c : Nat) (hcb : 257 ≤ c) (hRc : Rc w0 G (some ad) (digs (emptyL 32) 257)) (i : Itm) (hi : i.OK) (hct : 1 ≤ i.ct ∧ i.ct ≤ 1099511627776) (hT : Tab w0) (hA : Hp w0 R w) : Calls Tryd.prog 22 #[.agg ([.pointer (some ⟨gn, 0, none⟩), .slice (some ad) 257 c] : List Value).toArray, .agg (dc i.k).toArray, .agg (.int .i64 i.ct :: dc i.ch).toArray] w fun e w' => ∃ top sl X, e = .returned (.tuple #[.agg ([top, sl] : List Value).toArray, .int .i64 0]) ∧ TV w0 (X :: G) (insL i t.items) top sl ∧ Hp w0 (X :: R) w' := by
  have hdk : (dc i.k).length = 32 := by rw [dc_length, hi.k]
  have hde : (Value.int .i64 i.ct :: dc i.ch).length = 33 := by rw [List.length_cons, dc_length, hi.ch]
  refine vc_enter Tryd.func22 rfl Tryd.ntmps22 (Nat.le_of_ble_eq_true rfl) (fun a hF => ?_)
  apply wp_seq_k; intro K1 hK1
  refine wp_region_lit ?_
  refine vc_op rfl (fun K hK => hs_box (cs := [.pointer (some ⟨gn, 0, none⟩), .slice (some ad) 257 c]) hF rfl (by decide) rfl hA rfl (fun b1 w2 a hb1 hF hA3 => hK _ _ ?_))
  clear hK K
  replace hA3 : Hp w0 ([row b1 45 [.pointer (some ⟨gn, 0, none⟩), .slice (some ad) 257 c]] :: R) w2 := hA3
  refine vc_op rfl (fun K hK => hs_box (cs := dc i.k) hF rfl (by decide) rfl hA3 rfl (fun b4 w5 a hb4 hF hA6 => hK _ _ ?_))
  clear hK K
  replace hA6 : Hp w0 ([row b4 23 (dc i.k)] :: [row b1 45 [.pointer (some ⟨gn, 0, none⟩), .slice (some ad) 257 c]] :: R) w5 := hA6
  refine vc_op rfl (fun K hK => hs_box (cs := .int .i64 i.ct :: dc i.ch) hF rfl (by decide) rfl hA6 rfl (fun b7 w8 a hb7 hF hA9 => hK _ _ ?_))
  clear hK K
  replace hA9 : Hp w0 ([row b7 25 (.int .i64 i.ct :: dc i.ch)] :: [row b4 23 (dc i.k)] :: [row b1 45 [.pointer (some ⟨gn, 0, none⟩), .slice (some ad) 257 c]] :: R) w8 := hA9
  refine vc_op rfl (fun K hK => hs_alloc hF rfl (by decide) rfl hA9 (zr45_s13) (fun b10 w11 a hb10 hF hA12 => hK _ _ ?_))
  clear hK K
  replace hA12 : Hp w0 ([row b10 45 [.pointer none, .slice none 0 0]] :: [row b7 25 (.int .i64 i.ct :: dc i.ch)] :: [row b4 23 (dc i.k)] :: [row b1 45 [.pointer (some ⟨gn, 0, none⟩), .slice (some ad) 257 c]] :: R) w11 := hA12
  refine vc_y hF rfl rfl (by decide) _ (y_assign rfl rfl) (fun a hF => ?_)
  refine vc_nil ?_
  refine hK1 _ _ ?_; clear  hK1 K1
  apply wp_seq_k; intro K2 hK2
  apply wp_seq_k; intro K3 hK3
  refine wp_region_lit ?_
  refine vc_y hF rfl rfl (by decide) _ (y_ldRow (new := .int .i64 i.ct :: dc i.ch) rfl hA12.q rfl 1 rfl rw25_s13 (by rw [hde]; exact Nat.le_refl _) (by rw [List.drop_zero]; exact List.take_of_length_le (by rw [hde]; exact Nat.le_refl _))) (fun a hF => ?_)
  refine vc_op rfl (fun K hK => ws_call hF rfl (by decide) cl56_s13 rfl rfl ?_)
  with_reducible refine (sp_counted w0 _ ([row b10 45 [.pointer none, .slice none 0 0]] :: [row b7 25 (.int .i64 i.ct :: dc i.ch)] :: [row b4 23 (dc i.k)] :: [row b1 45 [.pointer (some ⟨gn, 0, none⟩), .slice (some ad) 257 c]] :: R) i.ct i.ch hA12 ).mono ?_
  rintro e' w13 ⟨rfl, hA14⟩
  refine ⟨_, rfl, fun a hF => hK _ _ ?_⟩
  clear hK K
  replace hA14 : Hp w0 ([row b10 45 [.pointer none, .slice none 0 0]] :: [row b7 25 (.int .i64 i.ct :: dc i.ch)] :: [row b4 23 (dc i.k)] :: [row b1 45 [.pointer (some ⟨gn, 0, none⟩), .slice (some ad) 257 c]] :: R) w13 := hA14
  rw [decide_eq_true hct] at hF
  refine vc_y hF rfl rfl (by decide) _ (y_not rfl rfl rfl) (fun a hF => ?_)
  refine vc_nil ?_
  refine hK3 _ _ ?_; clear  hK3 K3
  refine vc_false hF rfl ?_
  apply wp_skip
  refine hK2 _ _ ?_; clear  hK2 K2
  apply wp_seq_k; intro K4 hK4
  refine wp_region_lit ?_
  refine vc_y hF rfl rfl (by decide) _ (y_field rfl Tryd.underlying45 rfl sz26_s13 (by decide) rfl (rfl : (⟨_, 0 + _, none⟩ : Addr) = ⟨_, 1, none⟩)) (fun a hF => ?_)
  refine vc_y hF rfl rfl (by decide) _ (y_ld rfl hA14.q rfl 3 rfl rfl nr26_s13) (fun a hF => ?_)
  refine vc_op rfl (fun K hK => ws_call hF rfl (by decide) cl54_s13 rfl rfl ?_)
  with_reducible refine (rt_atS w0 _ ([row b10 45 [.pointer none, .slice none 0 0]] :: [row b7 25 (.int .i64 i.ct :: dc i.ch)] :: [row b4 23 (dc i.k)] :: [row b1 45 [.pointer (some ⟨gn, 0, none⟩), .slice (some ad) 257 c]] :: R) G 32 ad c hcb hRc hT hA14 ).mono ?_
  rintro e' w15 ⟨gs, SX, rfl, hSm2, hA16⟩
  refine ⟨_, rfl, fun a hF => hK _ _ ?_⟩
  clear hK K
  replace hA16 : Hp w0 (SX :: [row b10 45 [.pointer none, .slice none 0 0]] :: [row b7 25 (.int .i64 i.ct :: dc i.ch)] :: [row b4 23 (dc i.k)] :: [row b1 45 [.pointer (some ⟨gn, 0, none⟩), .slice (some ad) 257 c]] :: R) w15 := hA16
  rw [show min (max (32 : Int) 1) 32 = 32 from rfl] at hSm2
  have hSm := hSm2.sm
  obtain ⟨AE, cE, wb, hs1, hs2, hs3, hcE⟩ := id hSm2
  obtain ⟨be_, qe, hAE, _⟩ := hs3.ne (i := 0) (by rw [digs_len _ _ (fun i _ => emptyL_length _ _)]; decide)
  refine vc_y hF rfl rfl (by decide) _ (y_assign rfl rfl) (fun a hF => ?_)
  refine vc_nil ?_
  refine hK4 _ _ ?_; clear  hK4 K4
  apply wp_seq_k; intro K5 hK5
  refine wp_region_plan 11 [5,11,12] [0,1,2,3,4,6,7,8,9,5,10,11,12] (fun x => Hq w0 (SX :: [row b10 45 [.pointer none, .slice none 0 0]] :: [row b7 25 (.int .i64 i.ct :: dc i.ch)] :: [row b4 23 (dc i.k)] :: [row b1 45 [.pointer (some ⟨gn, 0, none⟩), .slice (some ad) 257 c]] :: R) x) (by kernel_rfl) (by kernel_rfl) (Hq.drew (Hp.qp [SX, [row b10 45 [.pointer none, .slice none 0 0]], [row b7 25 (.int .i64 i.ct :: dc i.ch)], [row b4 23 (dc i.k)], [row b1 45 [.pointer (some ⟨gn, 0, none⟩), .slice (some ad) 257 c]]] R [0, 1, 2, 3, 4] hA16)) ?_
  have hA17 := Hl.drew hA16
  refine vp_y hF rfl rfl rfl rfl (by decide) _ (fun x hx => y_field rfl Tryd.underlying45 rfl sz43_s13 (by decide) rfl (rfl : (⟨_, 0 + _, none⟩ : Addr) = ⟨_, 0, none⟩)) (fun a hF => ?_)
  refine vp_y hF rfl rfl rfl rfl (by decide) _ (fun x hx => y_ld rfl hx rfl 4 rfl rfl nr43_s13) (fun a hF => ?_)
  refine vp_y hF rfl rfl rfl rfl (by decide) _ (fun x hx => y_ldRow (new := dc i.k) rfl hx rfl 3 rfl rw23_s13 (by rw [hdk]; exact Nat.le_refl _) (by rw [List.drop_zero]; exact List.take_of_length_le (by rw [hdk]; exact Nat.le_refl _))) (fun a hF => ?_)
  refine vp_y hF rfl rfl rfl rfl (by decide) _ (fun x hx => y_ldRow (new := .int .i64 i.ct :: dc i.ch) rfl hx rfl 2 rfl rw25_s13 (by rw [hde]; exact Nat.le_refl _) (by rw [List.drop_zero]; exact List.take_of_length_le (by rw [hde]; exact Nat.le_refl _))) (fun a hF => ?_)
  refine vp_y hF rfl rfl rfl rfl (by decide) _ (fun x hx => y_move rfl rfl) (fun a hF => ?_)
  refine vp_y hF rfl rfl rfl rfl (by decide) _ (fun x hx => y_move rfl rfl) (fun a hF => ?_)
  refine vp_y hF rfl rfl rfl rfl (by decide) _ (fun x hx => y_nilCheck rfl rfl) (fun a hF => ?_)
  refine vp_y hF rfl rfl rfl rfl (by decide) _ (fun x hx => y_field rfl Tryd.underlying102 rfl sz26_s13 (by decide) rfl (rfl : (⟨_, 0 + _, none⟩ : Addr) = ⟨_, 1, none⟩)) (fun a hF => ?_)
  refine vp_y hF rfl rfl rfl rfl (by decide) _ (fun x hx => y_ldC rfl (Hq.sub hx (sub_cons2 ((List.mem_cons_self ..)) (List.Subset.trans hG (subC (subC (subC (subC (subC (sub0))))))))) rfl hs1 1 (by simp) rfl rfl nr26_s13) (fun a hF => ?_)
  refine vp_l rfl rfl rfl (fun K hK => ws_call hF rfl (by decide) cl57_s13 rfl rfl ?_)
  with_reducible refine (rt_putS w0 i hi hT t hg hsz _ (SX :: [row b10 45 [.pointer none, .slice none 0 0]] :: [row b7 25 (.int .i64 i.ct :: dc i.ch)] :: [row b4 23 (dc i.k)] :: [row b1 45 [.pointer (some ⟨gn, 0, none⟩), .slice (some ad) 257 c]] :: R) (SX :: G) (sub_cons2 ((List.mem_cons_self ..)) (List.Subset.trans hG (subC (subC (subC (subC (subC (sub0)))))))) gs gn hSm (hTr.mono (List.subset_cons_of_subset _ (List.Subset.refl _))) hA17 ).mono ?_
  rintro e' w18 ⟨g2, X, rfl, hT2, hA19⟩
  refine ⟨_, rfl, fun a hF => hK _ _ (fun _ => ?_) ?_⟩
  · exact Hp.qp [X, SX, [row b10 45 [.pointer none, .slice none 0 0]], [row b7 25 (.int .i64 i.ct :: dc i.ch)], [row b4 23 (dc i.k)], [row b1 45 [.pointer (some ⟨gn, 0, none⟩), .slice (some ad) 257 c]]] R [1, 2, 3, 4, 5] hA19
  clear hK K
  replace hA19 : Hp w0 (X :: SX :: [row b10 45 [.pointer none, .slice none 0 0]] :: [row b7 25 (.int .i64 i.ct :: dc i.ch)] :: [row b4 23 (dc i.k)] :: [row b1 45 [.pointer (some ⟨gn, 0, none⟩), .slice (some ad) 257 c]] :: R) w18 := hA19
  refine vp_y hF rfl rfl rfl rfl (by decide) _ (fun x hx => y_build (qs := #[(0, .pointer (some ⟨g2, 0, none⟩)), (1, .slice AE 257 cE)]) rfl rfl (rx_build2 _ _ _)) (fun a hF => ?_)
  refine vp_l rfl rfl rfl (fun K hK => hs_storeAll (new := [.pointer (some ⟨g2, 0, none⟩), .slice AE 257 cE]) hF rfl rfl hA19 rfl rfl 2 rfl rfl (by simp [Value.oneCell']) sz45_s13 (fun w20 hA21 => hK _ _ (fun h => absurd h (by decide)) ?_))
  clear hK K
  replace hA21 : Hp w0 (X :: SX :: [row b10 45 [.pointer (some ⟨g2, 0, none⟩), .slice AE 257 cE]] :: [row b7 25 (.int .i64 i.ct :: dc i.ch)] :: [row b4 23 (dc i.k)] :: [row b1 45 [.pointer (some ⟨gn, 0, none⟩), .slice (some ad) 257 c]] :: R) w20 := hA21
  refine vp_ly hF rfl rfl rfl rfl (by decide) _ (y_assign rfl rfl) (fun h => absurd h (by decide)) (fun a hF => ?_)
  refine plan_end ?_
  refine hK5 _ _ ?_; clear  hK5 K5
  apply wp_ret
  refine vc_retCT hF Tryd.results22 hA21.q rfl rfl 2 rfl rw45_s13 ?_
  have hA22 : Hp w0 (X :: SX :: R) w20 := Hp.sel [X, SX, [row b10 45 [.pointer (some ⟨g2, 0, none⟩), .slice AE 257 cE]], [row b7 25 (.int .i64 i.ct :: dc i.ch)], [row b4 23 (dc i.k)], [row b1 45 [.pointer (some ⟨gn, 0, none⟩), .slice (some ad) 257 c]]] R [0, 1] [2, 3, 4, 5] hA21 rfl
  have hmo : (X :: SX :: G).flatten ⊆ ((X ++ SX) :: G).flatten := fun r hr => by
    simp only [List.flatten_cons, List.append_assoc] at hr ⊢; exact hr
  have hup : (SX :: G).flatten ⊆ ((X ++ SX) :: G).flatten := flat_join
  exact ⟨_, _, X ++ SX, rfl, .inr ⟨t.ins i, g2, ⟨be_, qe, none⟩, cE, (Rx.ins_good hi hg).2.1, (Rx.ins_good hi hg).1, rfl, by rw [hAE], hT2.monoF hmo, by rw [← hAE]; exact hs3.monoF hup, hcE⟩, Hp.join hA22⟩

theorem rt_len (w0 w : World) (R G : List Seg) (hG : G ⊆ R) (L : List Itm) (top sl : Value) (h : TV w0 G L top sl) (hA : Hp w0 R w) : Calls Tryd.prog 20 #[.agg ([top, sl] : List Value).toArray] w fun e w' => e = .returned (.int .i64 ((L.length : Nat) : Int)) ∧ Hp w0 R w' := by
  rcases h with ⟨rfl, rfl, rfl⟩ | ⟨t, g, ad, c, rfl, hg, rfl, rfl, hTr, hRc, hcb⟩
  · exact rx_len0 w0 w R hA
  · rw [← t.size_eq]; exact rt_lenS w0 w R G hG t hg g hTr _ hA
theorem rt_root (w0 w : World) (R G : List Seg) (hG : G ⊆ R) (L : List Itm) (top sl : Value) (h : TV w0 G L top sl) (width : Int) (hT : Tab w0) (hA : Hp w0 R w) : Calls Tryd.prog 18 #[.agg ([top, sl] : List Value).toArray, .int .i64 width] w fun e w' => e = .returned (.agg (dc (subE width 256 L)).toArray) ∧ Hp w0 R w' := by
  rcases h with ⟨rfl, rfl, rfl⟩ | ⟨t, g, ad, c, rfl, hg, rfl, rfl, hTr, hRc, hcb⟩
  · exact rt_rootN w0 w R width hT hA
  · exact rt_rootS w0 w R G hG t hg g hTr ad c hcb hRc width hT hA
theorem rt_tput (w0 w : World) (R G : List Seg) (hG : G ⊆ R) (L : List Itm) (top sl : Value) (h : TV w0 G L top sl) (hsz : L.length ≤ 100000) (i : Itm) (hi : i.OK) (hct : okC i = true) (hT : Tab w0) (hA : Hp w0 R w) : Calls Tryd.prog 22 #[.agg ([top, sl] : List Value).toArray, .agg (dc i.k).toArray, .agg (.int .i64 i.ct :: dc i.ch).toArray] w fun e w' => ∃ top2 sl2 X, e = .returned (.tuple #[.agg ([top2, sl2] : List Value).toArray, .int .i64 0]) ∧ TV w0 (X :: G) (insL i L) top2 sl2 ∧ Hp w0 (X :: R) w' := by
  have hc := of_decide_eq_true hct
  rcases h with ⟨rfl, rfl, rfl⟩ | ⟨t, g, ad, c, rfl, hg, rfl, rfl, hTr, hRc, hcb⟩
  · refine (rt_tputN w0 w R i hi hc hT hA).mono ?_
    rintro e w' ⟨gn, A, c, X, rfl, hRc, hcb, hA2⟩
    obtain ⟨be_, qe, hAE, _⟩ := hRc.ne (i := 0) (by rw [digs_len _ _ (fun i _ => emptyL_length _ _)]; decide)
    subst hAE
    refine ⟨_, _, [row gn 107 (leafC i)] ++ X, rfl, .inr ⟨.leaf i, gn, ⟨be_, qe, none⟩, c, rfl, hi, rfl, rfl, Rw.ofMem (List.mem_cons_self ..) (List.mem_cons_self ..), hRc.monoF (fun r hr => ?_), hcb⟩, Hp.join hA2⟩
    rw [List.flatten_cons, List.flatten_nil, List.append_nil] at hr
    rw [List.flatten_cons]
    exact List.mem_append_left _ (List.mem_append_right _ hr)
  · exact rt_tputS w0 w R G hG t hg g hTr (by rw [t.size_eq]; exact hsz) ad c hcb hRc i hi hc hT hA

theorem digs_ones (f : Nat → List UInt8) (n : Nat) : ∀ v ∈ digs f n, v.oneCell' = true := fun v hv => by
  rw [digs_map] at hv
  unfold cel at hv
  obtain ⟨W, h1, h2⟩ := List.mem_flatten.1 hv
  obtain ⟨l, _, rfl⟩ := List.mem_map.1 h1
  exact dc_one _ v h2

set_option maxRecDepth 100000 in
set_option maxHeartbeats 2000000 in
theorem rt_besideN (w0 w : World) (R G : List Seg) (hG : G ⊆ R) (k : List UInt8) (hk : k.length = 32) (gs : Nat) (width : Int) (hSm2 : Sm2 w0 G 82 gs width) (hA : Hp w0 R w) : Calls Tryd.prog 70 #[.agg ([.pointer none, .slice none 0 0] : List Value).toArray, .pointer (some ⟨gs, 0, none⟩), .agg (dc k).toArray] w fun e w' => ∃ v X, e = .returned v ∧ Buf 23 32 X v 256 (digs (nbr width k []) 256) ∧ Hp w0 (X :: R) w' := by
  have hSm := hSm2.sm
  obtain ⟨AE, cE, wb, hs1, hs2, hs3, hcE⟩ := hSm2
  have hdk : (dc k).length = 32 := by rw [dc_length, hk]
  have hdle := emptyL_length width
  have hwl : (digs (emptyL width) 257).length = 257 * 32 := digs_len _ _ (fun i _ => hdle i)
  have hw6 : (digs (emptyL width) 256).length = 256 * 32 := digs_len _ _ (fun i _ => hdle i)
  have hcut : (digs (emptyL width) 257).take (256 * 32) = digs (emptyL width) 256 := by
    rw [digs_succ, List.take_left' hw6]
  have hs4 : Rc w0 G AE (digs (emptyL width) 256) := by rw [← hcut]; exact hs3.take _
  refine vc_enter Tryd.func70 rfl Tryd.ntmps70 (Nat.le_of_ble_eq_true rfl) (fun a hF => ?_)
  apply wp_seq_k; intro K1 hK1
  refine wp_region_lit ?_
  refine vc_op rfl (fun K hK => hs_box (cs := [.pointer none, .slice none 0 0]) hF rfl (by decide) rfl hA rfl (fun b1 w2 a hb1 hF hA3 => hK _ _ ?_))
  clear hK K
  replace hA3 : Hp w0 ([row b1 45 [.pointer none, .slice none 0 0]] :: R) w2 := hA3
  refine vc_op rfl (fun K hK => hs_box (cs := dc k) hF rfl (by decide) rfl hA3 rfl (fun b4 w5 a hb4 hF hA6 => hK _ _ ?_))
  clear hK K
  replace hA6 : Hp w0 ([row b4 23 (dc k)] :: [row b1 45 [.pointer none, .slice none 0 0]] :: R) w5 := hA6
  refine vc_y hF rfl rfl (by decide) _ (y_assign rfl rfl) (fun a hF => ?_)
  refine vc_nil ?_
  refine hK1 _ _ ?_; clear  hK1 K1
  apply wp_seq_k; intro K2 hK2
  refine wp_region_lit ?_
  refine vc_y hF rfl rfl (by decide) _ (y_move rfl rfl) (fun a hF => ?_)
  refine vc_y hF rfl rfl (by decide) _ (y_nilCheck rfl rfl) (fun a hF => ?_)
  refine vc_y hF rfl rfl (by decide) _ (y_field rfl Tryd.underlying102 rfl sz26_s13 (by decide) rfl (rfl : (⟨_, 0 + _, none⟩ : Addr) = ⟨_, 1, none⟩)) (fun a hF => ?_)
  refine vc_y hF rfl rfl (by decide) _ (y_ldC rfl (Hq.sub hA6.q (List.Subset.trans hG (subC (subC (sub0))))) rfl hs1 1 (by simp) rfl rfl nr26_s13) (fun a hF => ?_)
  refine vc_y hF rfl rfl (by decide) _ (y_slice (v := .slice AE 256 cE) rfl Tryd.underlying26 sz23_s13 rfl (.none 0) (.some rfl rfl) (Nat.zero_le _) (show 256 ≤ cE by omega) slice_to) (fun a hF => ?_)
  have hnl : Hp w0 ([] :: [row b4 23 (dc k)] :: [row b1 45 [.pointer none, .slice none 0 0]] :: R) w5 := hA6
  refine vc_op rfl (fun K hK => hs_append hF rfl (by decide) rfl hnl 0 rfl (Buf.nil 23 32) Tryd.underlying26 t7_elem rfl rfl (Rc.srcC (W := digs (emptyL width) 256) (m := 256) (size := 32) (R := G) hs4 (Hq.sub hnl.q (List.Subset.trans hG (subC (subC (subC (sub0)))))) Tryd.underlying26 (by decide) hw6 (digs_ones _ _)) (by omega) (by decide) (fun lv XL w7 a hB hF hA8 => hK _ _ ?_))
  clear hK K
  replace hA8 : Hp w0 (XL :: [row b4 23 (dc k)] :: [row b1 45 [.pointer none, .slice none 0 0]] :: R) w7 := hA8
  rw [Nat.zero_add, List.nil_append] at hB
  refine vc_y hF rfl rfl (by decide) _ (y_assign rfl rfl) (fun a hF => ?_)
  refine vc_nil ?_
  refine hK2 _ _ ?_; clear  hK2 K2
  apply wp_seq_k; intro K3 hK3
  apply wp_seq_k; intro K4 hK4
  refine wp_region_lit ?_
  refine vc_y hF rfl rfl (by decide) _ (y_field rfl Tryd.underlying45 rfl sz43_s13 (by decide) rfl (rfl : (⟨_, 0 + _, none⟩ : Addr) = ⟨_, 0, none⟩)) (fun a hF => ?_)
  refine vc_y hF rfl rfl (by decide) _ (y_ld rfl hA8.q rfl 2 rfl rfl nr43_s13) (fun a hF => ?_)
  refine vc_y hF rfl rfl (by decide) _ (y_assign rfl rfl) (fun a hF => ?_)
  refine vc_nil ?_
  refine hK4 _ _ ?_; clear  hK4 K4
  apply wp_block
  have hA9 : Hp w0 (XL :: [row b4 23 (dc k)] :: R) w7 := Hp.sel [XL, [row b4 23 (dc k)], [row b1 45 [.pointer none, .slice none 0 0]]] R [0, 1] [2] hA8 rfl
  refine vc_loop (G := Unit) (fun u a x => True ∧ Fr 72 [(8, .pointer none), (7, lv), (3, .pointer (some ⟨b1, 0, none⟩)), (5, .pointer (some ⟨b4, 0, none⟩)), (1, .pointer (some ⟨gs, 0, none⟩))] a ∧ Hp w0 (XL :: [row b4 23 (dc k)] :: R) x) (fun u => 0) () (⟨trivial, hF.keep [8, 7, 3, 5, 1] rfl, hA9⟩) ?_
  clear hF
  rintro u a w11 ⟨_, hF, hA10⟩
  apply wp_seq_k; intro K5 hK5
  apply wp_seq_k; intro K6 hK6
  refine wp_region_lit ?_
  refine vc_y hF rfl rfl (by decide) _ (y_move rfl rfl) (fun a hF => ?_)
  refine vc_y hF rfl rfl (by decide) _ (y_neNilT rfl (by kernel_rfl) rfl rfl) (fun a hF => ?_)
  refine vc_nil ?_
  refine hK6 _ _ ?_; clear  hK6 K6
  refine vc_false hF rfl ?_
  apply wp_exit
  refine hK3 _ _ ?_; clear hK5 K5 hK3 K3
  apply wp_seq_k; intro K7 hK7
  refine wp_region_lit ?_
  refine vc_y hF rfl rfl (by decide) _ (y_move rfl rfl) (fun a hF => ?_)
  refine vc_y hF rfl rfl (by decide) _ (y_assign rfl rfl) (fun a hF => ?_)
  refine vc_nil ?_
  refine hK7 _ _ ?_; clear  hK7 K7
  apply wp_ret
  refine vc_ret1 hF Tryd.results70 rfl ?_
  have hA12 : Hp w0 (XL :: R) w11 := Hp.sel [XL, [row b4 23 (dc k)]] R [0] [1] hA10 rfl
  rw [digs_congr (f := emptyL width) (g := nbr width k []) (BInv.empty width k)] at hB
  exact ⟨lv, _, rfl, hB, hA12⟩

set_option maxRecDepth 100000 in
set_option maxHeartbeats 2000000 in
theorem rt_besideS (w0 w : World) (R G : List Seg) (hG : G ⊆ R) (t : Rx) (hg : t.Good) (gn : Nat) (hTr : Tr w0 G true t gn) (ad : Addr) (c : Nat) (hcb : 257 ≤ c) (hRc : Rc w0 G (some ad) (digs (emptyL 32) 257)) (k : List UInt8) (hk : k.length = 32) (gs : Nat) (width : Int) (hSm2 : Sm2 w0 G 82 gs width) (hT : Tab w0) (hA : Hp w0 R w) : Calls Tryd.prog 70 #[.agg ([.pointer (some ⟨gn, 0, none⟩), .slice (some ad) 257 c] : List Value).toArray, .pointer (some ⟨gs, 0, none⟩), .agg (dc k).toArray] w fun e w' => ∃ v X, e = .returned v ∧ Buf 23 32 X v 256 (digs (nbr width k t.items) 256) ∧ Hp w0 (X :: R) w' := by
  have hSm := hSm2.sm
  obtain ⟨AE, cE, wb, hs1, hs2, hs3, hcE⟩ := hSm2
  have hdk : (dc k).length = 32 := by rw [dc_length, hk]
  have hdle := emptyL_length width
  have hwl : (digs (emptyL width) 257).length = 257 * 32 := digs_len _ _ (fun i _ => hdle i)
  have hw6 : (digs (emptyL width) 256).length = 256 * 32 := digs_len _ _ (fun i _ => hdle i)
  have hcut : (digs (emptyL width) 257).take (256 * 32) = digs (emptyL width) 256 := by
    rw [digs_succ, List.take_left' hw6]
  have hs4 : Rc w0 G AE (digs (emptyL width) 256) := by rw [← hcut]; exact hs3.take _
  refine vc_enter Tryd.func70 rfl Tryd.ntmps70 (Nat.le_of_ble_eq_true rfl) (fun a hF => ?_)
  apply wp_seq_k; intro K1 hK1
  refine wp_region_lit ?_
  refine vc_op rfl (fun K hK => hs_box (cs := [.pointer (some ⟨gn, 0, none⟩), .slice (some ad) 257 c]) hF rfl (by decide) rfl hA rfl (fun b1 w2 a hb1 hF hA3 => hK _ _ ?_))
  clear hK K
  replace hA3 : Hp w0 ([row b1 45 [.pointer (some ⟨gn, 0, none⟩), .slice (some ad) 257 c]] :: R) w2 := hA3
  refine vc_op rfl (fun K hK => hs_box (cs := dc k) hF rfl (by decide) rfl hA3 rfl (fun b4 w5 a hb4 hF hA6 => hK _ _ ?_))
  clear hK K
  replace hA6 : Hp w0 ([row b4 23 (dc k)] :: [row b1 45 [.pointer (some ⟨gn, 0, none⟩), .slice (some ad) 257 c]] :: R) w5 := hA6
  refine vc_y hF rfl rfl (by decide) _ (y_assign rfl rfl) (fun a hF => ?_)
  refine vc_nil ?_
  refine hK1 _ _ ?_; clear  hK1 K1
  apply wp_seq_k; intro K2 hK2
  refine wp_region_lit ?_
  refine vc_y hF rfl rfl (by decide) _ (y_move rfl rfl) (fun a hF => ?_)
  refine vc_y hF rfl rfl (by decide) _ (y_nilCheck rfl rfl) (fun a hF => ?_)
  refine vc_y hF rfl rfl (by decide) _ (y_field rfl Tryd.underlying102 rfl sz26_s13 (by decide) rfl (rfl : (⟨_, 0 + _, none⟩ : Addr) = ⟨_, 1, none⟩)) (fun a hF => ?_)
  refine vc_y hF rfl rfl (by decide) _ (y_ldC rfl (Hq.sub hA6.q (List.Subset.trans hG (subC (subC (sub0))))) rfl hs1 1 (by simp) rfl rfl nr26_s13) (fun a hF => ?_)
  refine vc_y hF rfl rfl (by decide) _ (y_slice (v := .slice AE 256 cE) rfl Tryd.underlying26 sz23_s13 rfl (.none 0) (.some rfl rfl) (Nat.zero_le _) (show 256 ≤ cE by omega) slice_to) (fun a hF => ?_)
  have hnl : Hp w0 ([] :: [row b4 23 (dc k)] :: [row b1 45 [.pointer (some ⟨gn, 0, none⟩), .slice (some ad) 257 c]] :: R) w5 := hA6
  refine vc_op rfl (fun K hK => hs_append hF rfl (by decide) rfl hnl 0 rfl (Buf.nil 23 32) Tryd.underlying26 t7_elem rfl rfl (Rc.srcC (W := digs (emptyL width) 256) (m := 256) (size := 32) (R := G) hs4 (Hq.sub hnl.q (List.Subset.trans hG (subC (subC (subC (sub0)))))) Tryd.underlying26 (by decide) hw6 (digs_ones _ _)) (by omega) (by decide) (fun lv XL w7 a hB hF hA8 => hK _ _ ?_))
  clear hK K
  replace hA8 : Hp w0 (XL :: [row b4 23 (dc k)] :: [row b1 45 [.pointer (some ⟨gn, 0, none⟩), .slice (some ad) 257 c]] :: R) w7 := hA8
  rw [Nat.zero_add, List.nil_append] at hB
  refine vc_y hF rfl rfl (by decide) _ (y_assign rfl rfl) (fun a hF => ?_)
  refine vc_nil ?_
  refine hK2 _ _ ?_; clear  hK2 K2
  apply wp_seq_k; intro K3 hK3
  apply wp_seq_k; intro K4 hK4
  refine wp_region_lit ?_
  refine vc_y hF rfl rfl (by decide) _ (y_field rfl Tryd.underlying45 rfl sz43_s13 (by decide) rfl (rfl : (⟨_, 0 + _, none⟩ : Addr) = ⟨_, 0, none⟩)) (fun a hF => ?_)
  refine vc_y hF rfl rfl (by decide) _ (y_ld rfl hA8.q rfl 2 rfl rfl nr43_s13) (fun a hF => ?_)
  refine vc_y hF rfl rfl (by decide) _ (y_assign rfl rfl) (fun a hF => ?_)
  refine vc_nil ?_
  refine hK4 _ _ ?_; clear  hK4 K4
  apply wp_block
  have hA9 : Hp w0 (XL :: [row b4 23 (dc k)] :: R) w7 := Hp.sel [XL, [row b4 23 (dc k)], [row b1 45 [.pointer (some ⟨gn, 0, none⟩), .slice (some ad) 257 c]]] R [0, 1] [2] hA8 rfl
  refine vc_loop (G := Rx × Nat × (Nat → List UInt8)) (fun gh a x => ∃ (X : Seg), gh.1.Good ∧ Tr w0 G true gh.1 gh.2.1 ∧ BInv width k t.items gh.1 gh.2.2 ∧ (∀ h, (gh.2.2 h).length = 32) ∧ Buf 23 32 X lv 256 (digs gh.2.2 256) ∧ Fr 72 [(8, .pointer (some ⟨gh.2.1, 0, none⟩)), (7, lv), (3, .pointer (some ⟨b1, 0, none⟩)), (5, .pointer (some ⟨b4, 0, none⟩)), (1, .pointer (some ⟨gs, 0, none⟩))] a ∧ Hp w0 (X :: [row b4 23 (dc k)] :: R) x) (fun gh => gh.1.size) (t, gn, emptyL width) (⟨_, hg, hTr, BInv.top width k t, hdle, hB, hF.keep [8, 7, 3, 5, 1] rfl, hA9⟩) ?_
  clear hF
  rintro gh a w11 ⟨X, hgi, hTi, hBI, hfl, hB, hF, hA10⟩
  obtain ⟨t', g', f⟩ := gh
  simp only at hgi hTi hBI hfl hB hF
  obtain ⟨E, p, p', s, hL, hN⟩ := Tr.view hgi hTi
  have hbl := Rx.bit_le hgi
  have hkl := hgi.key
  have hpl := partsN_le k t'.key
  apply wp_seq_k; intro K5 hK5
  apply wp_seq_k; intro K6 hK6
  refine wp_region_lit ?_
  refine vc_y hF rfl rfl (by decide) _ (y_move rfl rfl) (fun a hF => ?_)
  refine vc_y hF rfl rfl (by decide) _ (y_neNil rfl (by kernel_rfl) rfl rfl) (fun a hF => ?_)
  refine vc_nil ?_
  refine hK6 _ _ ?_; clear  hK6 K6
  refine vc_true hF rfl ?_
  apply wp_skip
  refine hK5 _ _ ?_; clear  hK5 K5
  apply wp_block
  apply wp_seq_k; intro K7 hK7
  refine wp_region_plan 6 [5,6] [0,1,2,3,4,5,6] (fun x => Hq w0 (X :: [row b4 23 (dc k)] :: R) x) (by kernel_rfl) (by kernel_rfl) (Hq.drew (Hp.qp [X, [row b4 23 (dc k)]] R [0, 1] hA10)) ?_
  have hA12 := Hl.drew hA10
  refine vp_y hF rfl rfl rfl rfl (by decide) _ (fun x hx => y_ldRow (new := dc k) rfl hx rfl 1 rfl rw23_s13 (by rw [hdk]; exact Nat.le_refl _) (by rw [List.drop_zero]; exact List.take_of_length_le (by rw [hdk]; exact Nat.le_refl _))) (fun a hF => ?_)
  refine vp_y hF rfl rfl rfl rfl (by decide) _ (fun x hx => y_move rfl rfl) (fun a hF => ?_)
  refine vp_y hF rfl rfl rfl rfl (by decide) _ (fun x hx => y_nilCheck rfl rfl) (fun a hF => ?_)
  refine vp_y hF rfl rfl rfl rfl (by decide) _ (fun x hx => y_field rfl Tryd.underlying107 rfl sz23_s13 (by decide) rfl (rfl : (⟨_, 0 + _, none⟩ : Addr) = ⟨_, 0, none⟩)) (fun a hF => ?_)
  refine vp_y hF rfl rfl rfl rfl (by decide) _ (fun x hx => y_ldRowC rfl (Hq.sub hx (List.Subset.trans hG (subC (subC (sub0))))) rfl hN 0 (by rw [nodeC_len hL]; decide) rfl (nodeC_key hL _ _ _ _) rw23_s13) (fun a hF => ?_)
  refine vp_l rfl rfl rfl (fun K hK => ws_call hF rfl (by decide) cl87_s13 rfl rfl ?_)
  with_reducible refine (rt_parts w0 _ (X :: [row b4 23 (dc k)] :: R) k t'.key hk hkl hA12 ).mono ?_
  rintro e' w13 ⟨rfl, hA14⟩
  refine ⟨_, rfl, fun a hF => hK _ _ (fun _ => ?_) ?_⟩
  · exact Hp.qp [X, [row b4 23 (dc k)]] R [0, 1] hA14
  clear hK K
  replace hA14 : Hp w0 (X :: [row b4 23 (dc k)] :: R) w13 := hA14
  refine vp_ly hF rfl rfl rfl rfl (by decide) _ (y_assign rfl rfl) (fun h => absurd h (by decide)) (fun a hF => ?_)
  refine plan_end ?_
  refine hK7 _ _ ?_; clear  hK7 K7
  apply wp_seq_k; intro K8 hK8
  apply wp_seq_k; intro K9 hK9
  refine wp_region_lit ?_
  refine vc_y hF rfl rfl (by decide) _ (y_move rfl rfl) (fun a hF => ?_)
  refine vc_y hF rfl rfl (by decide) _ (y_move rfl rfl) (fun a hF => ?_)
  refine vc_y hF rfl rfl (by decide) _ (y_nilCheck rfl rfl) (fun a hF => ?_)
  refine vc_y hF rfl rfl (by decide) _ (y_field rfl Tryd.underlying107 rfl sz3_s13 (by decide) rfl (rfl : (⟨_, 0 + _, none⟩ : Addr) = ⟨_, 66, none⟩)) (fun a hF => ?_)
  refine vc_y hF rfl rfl (by decide) _ (y_ldC rfl (Hq.sub hA14.q (List.Subset.trans hG (subC (subC (sub0))))) rfl hN 66 (by rw [nodeC_len hL]; decide) rfl (nodeC_bit hL _ _ _ _) nr3_s13) (fun a hF => ?_)
  refine vc_y hF rfl rfl (by decide) _ (y_cmp rfl rfl rfl rfl rfl) (fun a hF => ?_)
  refine vc_nil ?_
  refine hK9 _ _ ?_; clear  hK9 K9
  by_cases hp : partsN k t'.key < t'.bit
  · refine vc_trueB hF rfl (lss_t (by omega)) ?_
    have hp2 : partsN k t'.key < 256 := by omega
    have hFn := hF
    obtain ⟨gB, BB, ZB, cB, rfl, rfl, hWB, hiB, hB2⟩ := hB.setRow (i := 255 - partsN k t'.key) (V := dc (t'.lift width (255 - partsN k t'.key))) (by omega) (by rw [dc_length, Rx.lift_length])
    have hF := hFn
    have hA15 : Hp w0 ([row gB 23 (BB ++ digs f 256 ++ ZB)] :: [row b4 23 (dc k)] :: R) w13 := hA14
    apply wp_seq_k; intro K10 hK10
    refine wp_region_lit ?_
    refine vc_y hF rfl rfl (by decide) _ (y_move rfl rfl) (fun a hF => ?_)
    refine vc_y hF rfl rfl (by decide) _ (y_move rfl rfl) (fun a hF => ?_)
    refine vc_y hF rfl rfl (by decide) _ (y_sub rfl rfl rfl (show IntKind.i64.wrap (255 - ((partsN k t'.key : Nat) : Int)) = ((255 - partsN k t'.key : Nat) : Int) by rw [IntWalk.i64_in _ (by omega)]; omega)) (fun a hF => ?_)
    refine vc_y hF rfl rfl (by decide) _ (y_move rfl rfl) (fun a hF => ?_)
    refine vc_y hF rfl rfl (by decide) _ (y_move rfl rfl) (fun a hF => ?_)
    refine vc_y hF rfl rfl (by decide) _ (y_move rfl rfl) (fun a hF => ?_)
    refine vc_y hF rfl rfl (by decide) _ (y_sub rfl rfl rfl (show IntKind.i64.wrap (255 - ((partsN k t'.key : Nat) : Int)) = ((255 - partsN k t'.key : Nat) : Int) by rw [IntWalk.i64_in _ (by omega)]; omega)) (fun a hF => ?_)
    refine vc_op rfl (fun K hK => ws_call hF rfl (by decide) cl55_s13 rfl rfl ?_)
    with_reducible refine (rt_lift w0 _ ([row gB 23 (BB ++ digs f 256 ++ ZB)] :: [row b4 23 (dc k)] :: R) G (List.Subset.trans hG (subC (subC (sub0)))) t' hgi g' gs width (255 - partsN k t'.key) (by omega) (by omega) hSm hTi hT hA15 ).mono ?_
    rintro e' w16 ⟨rfl, hA17⟩
    refine ⟨_, rfl, fun a hF => hK _ _ ?_⟩
    clear hK K
    replace hA17 : Hp w0 ([row gB 23 (BB ++ digs f 256 ++ ZB)] :: [row b4 23 (dc k)] :: R) w16 := hA17
    refine vc_y hF rfl rfl (by decide) _ (y_ixSl rfl Tryd.underlying26 sz23_s13 rfl rfl (255 - partsN k t'.key) rfl (by omega) rfl) (fun a hF => ?_)
    refine vc_op rfl (fun K hK => hs_storeRow (new := dc (t'.lift width (255 - partsN k t'.key))) hF rfl rfl hA17 rfl rfl 0 rfl (by rw [List.length_append, List.length_append, hWB, dc_length, Rx.lift_length]; omega) (dc_one _) (by rw [dc_length, Rx.lift_length]; exact sz23_s13) (fun w18 hA19 => hK _ _ ?_))
    clear hK K
    replace hA19 : Hp w0 ([row gB 23 (splice (BB ++ digs f 256 ++ ZB) (BB.length + (255 - partsN k t'.key) * 32) (dc (t'.lift width (255 - partsN k t'.key))))] :: [row b4 23 (dc k)] :: R) w18 := hA19
    refine vc_nil ?_
    refine hK10 _ _ ?_; clear  hK10 K10
    apply wp_exit
    refine hK3 _ _ ?_; clear hK8 K8 hK3 K3
    apply wp_seq_k; intro K11 hK11
    refine wp_region_lit ?_
    refine vc_y hF rfl rfl (by decide) _ (y_move rfl rfl) (fun a hF => ?_)
    refine vc_y hF rfl rfl (by decide) _ (y_assign rfl rfl) (fun a hF => ?_)
    refine vc_nil ?_
    refine hK11 _ _ ?_; clear  hK11 K11
    apply wp_ret
    refine vc_ret1 hF Tryd.results70 rfl ?_
    have hA20 : Hp w0 ([row gB 23 (splice (BB ++ digs f 256 ++ ZB) (BB.length + (255 - partsN k t'.key) * 32) (dc (t'.lift width (255 - partsN k t'.key))))] :: R) w18 := Hp.sel [[row gB 23 (splice (BB ++ digs f 256 ++ ZB) (BB.length + (255 - partsN k t'.key) * 32) (dc (t'.lift width (255 - partsN k t'.key))))], [row b4 23 (dc k)]] R [0] [1] hA19 rfl
    have hpu := digs_setD (f := f) (g := updF f (255 - partsN k t'.key) (t'.lift width (255 - partsN k t'.key))) (n := 256) (h := 255 - partsN k t'.key) (fun i _ => hfl i) (by omega) (by rw [updF_at, Rx.lift_length]) (fun i hi => updF_ne _ _ hi) []
    rw [updF_at, List.append_nil, List.append_nil] at hpu
    rw [hpu, digs_congr (f := updF f (255 - partsN k t'.key) (t'.lift width (255 - partsN k t'.key))) (g := nbr width k t.items) (fun h hh => BInv.out hgi hBI hp h hh)] at hB2
    exact ⟨_, _, rfl, hB2, hA20⟩
  · refine vc_falseB hF rfl (lss_f (by omega)) ?_
    by_cases hlf : t'.bit = 256
    · apply wp_skip
      refine hK8 _ _ ?_; clear  hK8 K8
      apply wp_seq_k; intro K12 hK12
      apply wp_seq_k; intro K13 hK13
      refine wp_region_lit ?_
      refine vc_y hF rfl rfl (by decide) _ (y_move rfl rfl) (fun a hF => ?_)
      refine vc_y hF rfl rfl (by decide) _ (y_nilCheck rfl rfl) (fun a hF => ?_)
      refine vc_y hF rfl rfl (by decide) _ (y_field rfl Tryd.underlying107 rfl sz3_s13 (by decide) rfl (rfl : (⟨_, 0 + _, none⟩ : Addr) = ⟨_, 66, none⟩)) (fun a hF => ?_)
      refine vc_y hF rfl rfl (by decide) _ (y_ldC rfl (Hq.sub hA14.q (List.Subset.trans hG (subC (subC (sub0))))) rfl hN 66 (by rw [nodeC_len hL]; decide) rfl (nodeC_bit hL _ _ _ _) nr3_s13) (fun a hF => ?_)
      refine vc_y hF rfl rfl (by decide) _ (y_cmp rfl rfl rfl rfl (eql_t (by omega))) (fun a hF => ?_)
      refine vc_nil ?_
      refine hK13 _ _ ?_; clear  hK13 K13
      refine vc_true hF rfl ?_
      obtain ⟨i, rfl⟩ := Rx.isLeaf hgi hlf
      have hp2 : ¬ partsN k i.k < 256 := hp
      apply wp_exit
      refine hK3 _ _ ?_; clear hK12 K12 hK3 K3
      apply wp_seq_k; intro K14 hK14
      refine wp_region_lit ?_
      refine vc_y hF rfl rfl (by decide) _ (y_move rfl rfl) (fun a hF => ?_)
      refine vc_y hF rfl rfl (by decide) _ (y_assign rfl rfl) (fun a hF => ?_)
      refine vc_nil ?_
      refine hK14 _ _ ?_; clear  hK14 K14
      apply wp_ret
      refine vc_ret1 hF Tryd.results70 rfl ?_
      have hA21 : Hp w0 (X :: R) w13 := Hp.sel [X, [row b4 23 (dc k)]] R [0] [1] hA14 rfl
      rw [digs_congr (f := f) (g := nbr width k t.items) (BInv.leaf hBI hp2)] at hB
      exact ⟨lv, _, rfl, hB, hA21⟩
    · apply wp_skip
      refine hK8 _ _ ?_; clear  hK8 K8
      apply wp_seq_k; intro K15 hK15
      apply wp_seq_k; intro K16 hK16
      refine wp_region_lit ?_
      refine vc_y hF rfl rfl (by decide) _ (y_move rfl rfl) (fun a hF => ?_)
      refine vc_y hF rfl rfl (by decide) _ (y_nilCheck rfl rfl) (fun a hF => ?_)
      refine vc_y hF rfl rfl (by decide) _ (y_field rfl Tryd.underlying107 rfl sz3_s13 (by decide) rfl (rfl : (⟨_, 0 + _, none⟩ : Addr) = ⟨_, 66, none⟩)) (fun a hF => ?_)
      refine vc_y hF rfl rfl (by decide) _ (y_ldC rfl (Hq.sub hA14.q (List.Subset.trans hG (subC (subC (sub0))))) rfl hN 66 (by rw [nodeC_len hL]; decide) rfl (nodeC_bit hL _ _ _ _) nr3_s13) (fun a hF => ?_)
      refine vc_y hF rfl rfl (by decide) _ (y_cmp rfl rfl rfl rfl (eql_f (by omega))) (fun a hF => ?_)
      refine vc_nil ?_
      refine hK16 _ _ ?_; clear  hK16 K16
      refine vc_false hF rfl ?_
      obtain ⟨b, l, r, rfl⟩ := Rx.isFork hlf
      have hb : b < 256 := by have : (Rx.fork b l r).bit = b := rfl; omega
      have hp2 : ¬ partsN k l.key < b := hp
      obtain ⟨hL, gl, gr, hN, hTl, hTr2⟩ := Tr.viewF hgi hTi
      have hg1 := hgi.1
      have hg2 := hgi.2.1
      have hsl := l.size_pos
      have hsr := r.size_pos
      by_cases hkb : keyBit k b = 0
      · have hFn := hF
        obtain ⟨gB, BB, ZB, cB, rfl, rfl, hWB, hiB, hB2⟩ := hB.setRow (i := 255 - b) (V := dc (r.lift width (255 - b))) (by omega) (by rw [dc_length, Rx.lift_length])
        have hF := hFn
        have hA22 : Hp w0 ([row gB 23 (BB ++ digs f 256 ++ ZB)] :: [row b4 23 (dc k)] :: R) w13 := hA14
        apply wp_skip
        refine hK15 _ _ ?_; clear  hK15 K15
        apply wp_seq_k; intro K17 hK17
        refine wp_region_plan 6 [5,6] [0,1,2,3,4,5,6] (fun x => Hq w0 ([row gB 23 (BB ++ digs f 256 ++ ZB)] :: [row b4 23 (dc k)] :: R) x) (by kernel_rfl) (by kernel_rfl) (Hq.drew (Hp.qp [[row gB 23 (BB ++ digs f 256 ++ ZB)], [row b4 23 (dc k)]] R [0, 1] hA22)) ?_
        have hA23 := Hl.drew hA22
        refine vp_y hF rfl rfl rfl rfl (by decide) _ (fun x hx => y_ldRow (new := dc k) rfl hx rfl 1 rfl rw23_s13 (by rw [hdk]; exact Nat.le_refl _) (by rw [List.drop_zero]; exact List.take_of_length_le (by rw [hdk]; exact Nat.le_refl _))) (fun a hF => ?_)
        refine vp_y hF rfl rfl rfl rfl (by decide) _ (fun x hx => y_move rfl rfl) (fun a hF => ?_)
        refine vp_y hF rfl rfl rfl rfl (by decide) _ (fun x hx => y_nilCheck rfl rfl) (fun a hF => ?_)
        refine vp_y hF rfl rfl rfl rfl (by decide) _ (fun x hx => y_field rfl Tryd.underlying107 rfl sz3_s13 (by decide) rfl (rfl : (⟨_, 0 + _, none⟩ : Addr) = ⟨_, 66, none⟩)) (fun a hF => ?_)
        refine vp_y hF rfl rfl rfl rfl (by decide) _ (fun x hx => y_ldC rfl (Hq.sub hx (List.Subset.trans hG (subC (subC (sub0))))) rfl hN 66 (by rw [nodeC_len hL]; decide) rfl (nodeC_bit hL _ _ _ _) nr3_s13) (fun a hF => ?_)
        refine vp_l rfl rfl rfl (fun K hK => ws_call hF rfl (by decide) cl76_s13 rfl rfl ?_)
        with_reducible refine (sp_bit_is (w0 := w0) (R := ([row gB 23 (BB ++ digs f 256 ++ ZB)] :: [row b4 23 (dc k)] :: R)) (z := 0) hkb hk hb hA23 ).mono ?_
        rintro e' w24 ⟨rfl, hA25⟩
        refine ⟨_, rfl, fun a hF => hK _ _ (fun _ => ?_) ?_⟩
        · exact Hp.qp [[row gB 23 (BB ++ digs f 256 ++ ZB)], [row b4 23 (dc k)]] R [0, 1] hA25
        clear hK K
        replace hA25 : Hp w0 ([row gB 23 (BB ++ digs f 256 ++ ZB)] :: [row b4 23 (dc k)] :: R) w24 := hA25
        rw [show ((0 : Nat) : Int) = 0 from rfl] at hF
        refine vp_ly hF rfl rfl rfl rfl (by decide) _ (y_assign rfl rfl) (fun h => absurd h (by decide)) (fun a hF => ?_)
        refine plan_end ?_
        refine hK17 _ _ ?_; clear  hK17 K17
        apply wp_seq_k; intro K18 hK18
        refine wp_region_plan 12 [10,12] [0,1,2,3,4,5,6,7,8,9,10,11,12] (fun x => Hq w0 ([row gB 23 (BB ++ digs f 256 ++ ZB)] :: [row b4 23 (dc k)] :: R) x) (by kernel_rfl) (by kernel_rfl) (Hq.drew (Hp.qp [[row gB 23 (BB ++ digs f 256 ++ ZB)], [row b4 23 (dc k)]] R [0, 1] hA25)) ?_
        have hA26 := Hl.drew hA25
        refine vp_y hF rfl rfl rfl rfl (by decide) _ (fun x hx => y_move rfl rfl) (fun a hF => ?_)
        refine vp_y hF rfl rfl rfl rfl (by decide) _ (fun x hx => y_move rfl rfl) (fun a hF => ?_)
        refine vp_y hF rfl rfl rfl rfl (by decide) _ (fun x hx => y_nilCheck rfl rfl) (fun a hF => ?_)
        refine vp_y hF rfl rfl rfl rfl (by decide) _ (fun x hx => y_field rfl Tryd.underlying107 rfl sz3_s13 (by decide) rfl (rfl : (⟨_, 0 + _, none⟩ : Addr) = ⟨_, 66, none⟩)) (fun a hF => ?_)
        refine vp_y hF rfl rfl rfl rfl (by decide) _ (fun x hx => y_ldC rfl (Hq.sub hx (List.Subset.trans hG (subC (subC (sub0))))) rfl hN 66 (by rw [nodeC_len hL]; decide) rfl (nodeC_bit hL _ _ _ _) nr3_s13) (fun a hF => ?_)
        refine vp_y hF rfl rfl rfl rfl (by decide) _ (fun x hx => y_sub rfl rfl rfl (show IntKind.i64.wrap (255 - ((b : Nat) : Int)) = ((255 - b : Nat) : Int) by rw [IntWalk.i64_in _ (by omega)]; omega)) (fun a hF => ?_)
        refine vp_y hF rfl rfl rfl rfl (by decide) _ (fun x hx => y_move rfl rfl) (fun a hF => ?_)
        refine vp_y hF rfl rfl rfl rfl (by decide) _ (fun x hx => y_move rfl rfl) (fun a hF => ?_)
        refine vp_y hF rfl rfl rfl rfl (by decide) _ (fun x hx => y_move rfl rfl) (fun a hF => ?_)
        refine vp_y hF rfl rfl rfl rfl (by decide) _ (fun x hx => y_sub rfl rfl rfl (show IntKind.i64.wrap (1 - (0 : Int)) = 1 by decide)) (fun a hF => ?_)
        refine vp_l rfl rfl rfl (fun K hK => ws_call hF rfl (by decide) cl93_s13 rfl rfl ?_)
        with_reducible refine (rt_part1 w0 _ ([row gB 23 (BB ++ digs f 256 ++ ZB)] :: [row b4 23 (dc k)] :: R) G (List.Subset.trans hG (subC (subC (sub0)))) b l r hgi g' gs width (rt_own w0 width hT r hg2) hSm hTi hT hA26 ).mono ?_
        rintro e' w27 ⟨rfl, hA28⟩
        refine ⟨_, rfl, fun a hF => hK _ _ (fun _ => ?_) ?_⟩
        · exact Hp.qp [[row gB 23 (BB ++ digs f 256 ++ ZB)], [row b4 23 (dc k)]] R [0, 1] hA28
        clear hK K
        replace hA28 : Hp w0 ([row gB 23 (BB ++ digs f 256 ++ ZB)] :: [row b4 23 (dc k)] :: R) w27 := hA28
        refine vp_y hF rfl rfl rfl rfl (by decide) _ (fun x hx => y_ixSl rfl Tryd.underlying26 sz23_s13 rfl rfl (255 - b) rfl (by omega) rfl) (fun a hF => ?_)
        refine vp_l rfl rfl rfl (fun K hK => hs_storeRow (new := dc (r.lift width (255 - b))) hF rfl rfl hA28 rfl rfl 0 rfl (by rw [List.length_append, List.length_append, hWB, dc_length, Rx.lift_length]; omega) (dc_one _) (by rw [dc_length, Rx.lift_length]; exact sz23_s13) (fun w29 hA30 => hK _ _ (fun h => absurd h (by decide)) ?_))
        clear hK K
        replace hA30 : Hp w0 ([row gB 23 (splice (BB ++ digs f 256 ++ ZB) (BB.length + (255 - b) * 32) (dc (r.lift width (255 - b))))] :: [row b4 23 (dc k)] :: R) w29 := hA30
        refine plan_end ?_
        refine hK18 _ _ ?_; clear  hK18 K18
        refine wp_region_lit ?_
        refine vc_y hF rfl rfl (by decide) _ (y_move rfl rfl) (fun a hF => ?_)
        refine vc_y hF rfl rfl (by decide) _ (y_move rfl rfl) (fun a hF => ?_)
        refine vc_y hF rfl rfl (by decide) _ (y_nilCheck rfl rfl) (fun a hF => ?_)
        refine vc_y hF rfl rfl (by decide) _ (y_field rfl Tryd.underlying107 rfl sz104_s13 (by decide) rfl (rfl : (⟨_, 0 + _, none⟩ : Addr) = ⟨_, 67, none⟩)) (fun a hF => ?_)
        refine vc_y hF rfl rfl (by decide) _ (y_ixArr rfl Tryd.underlying104 sz43_s13 rfl rfl 0 rfl (by decide) (rfl : (⟨_, 67 + 0 * 1, none⟩ : Addr) = ⟨_, 67, none⟩) (rfl : (none : Option Nat) = none)) (fun a hF => ?_)
        refine vc_y hF rfl rfl (by decide) _ (y_ldC rfl (Hq.sub hA30.q (List.Subset.trans hG (subC (subC (sub0))))) rfl hN 67 (by rw [nodeC_len hL]; decide) rfl (nodeC_kid0 hL _ _ _ _) nr43_s13) (fun a hF => ?_)
        refine vc_y hF rfl rfl (by decide) _ (y_assign rfl rfl) (fun a hF => ?_)
        refine vc_nil ?_
        have hpu := digs_setD (f := f) (g := updF f (255 - b) (r.lift width (255 - b))) (n := 256) (h := 255 - b) (fun i _ => hfl i) (by omega) (by rw [updF_at, Rx.lift_length]) (fun i hi => updF_ne _ _ hi) []
        rw [updF_at, List.append_nil, List.append_nil] at hpu
        rw [hpu] at hB2
        have hmm : l.size < (Rx.fork b l r).size := by show _ < l.size + r.size; omega
        exact ⟨(l, gl, updF f (255 - b) (r.lift width (255 - b))), hmm, _, hg1, hTl, BInv.side hgi hBI hp2 (.inl ⟨hkb, rfl, rfl⟩), (fun h => by show (updF f _ _ h).length = 32; unfold updF; split; exact Rx.lift_length ..; exact hfl h), hB2, hF.keep [8, 7, 3, 5, 1] rfl, hA30⟩
      · have hkb1 : keyBit k b = 1 := by have := keyBit_lt k b; omega
        have hFn := hF
        obtain ⟨gB, BB, ZB, cB, rfl, rfl, hWB, hiB, hB2⟩ := hB.setRow (i := 255 - b) (V := dc (l.lift width (255 - b))) (by omega) (by rw [dc_length, Rx.lift_length])
        have hF := hFn
        have hA31 : Hp w0 ([row gB 23 (BB ++ digs f 256 ++ ZB)] :: [row b4 23 (dc k)] :: R) w13 := hA14
        apply wp_skip
        refine hK15 _ _ ?_; clear  hK15 K15
        apply wp_seq_k; intro K19 hK19
        refine wp_region_plan 6 [5,6] [0,1,2,3,4,5,6] (fun x => Hq w0 ([row gB 23 (BB ++ digs f 256 ++ ZB)] :: [row b4 23 (dc k)] :: R) x) (by kernel_rfl) (by kernel_rfl) (Hq.drew (Hp.qp [[row gB 23 (BB ++ digs f 256 ++ ZB)], [row b4 23 (dc k)]] R [0, 1] hA31)) ?_
        have hA32 := Hl.drew hA31
        refine vp_y hF rfl rfl rfl rfl (by decide) _ (fun x hx => y_ldRow (new := dc k) rfl hx rfl 1 rfl rw23_s13 (by rw [hdk]; exact Nat.le_refl _) (by rw [List.drop_zero]; exact List.take_of_length_le (by rw [hdk]; exact Nat.le_refl _))) (fun a hF => ?_)
        refine vp_y hF rfl rfl rfl rfl (by decide) _ (fun x hx => y_move rfl rfl) (fun a hF => ?_)
        refine vp_y hF rfl rfl rfl rfl (by decide) _ (fun x hx => y_nilCheck rfl rfl) (fun a hF => ?_)
        refine vp_y hF rfl rfl rfl rfl (by decide) _ (fun x hx => y_field rfl Tryd.underlying107 rfl sz3_s13 (by decide) rfl (rfl : (⟨_, 0 + _, none⟩ : Addr) = ⟨_, 66, none⟩)) (fun a hF => ?_)
        refine vp_y hF rfl rfl rfl rfl (by decide) _ (fun x hx => y_ldC rfl (Hq.sub hx (List.Subset.trans hG (subC (subC (sub0))))) rfl hN 66 (by rw [nodeC_len hL]; decide) rfl (nodeC_bit hL _ _ _ _) nr3_s13) (fun a hF => ?_)
        refine vp_l rfl rfl rfl (fun K hK => ws_call hF rfl (by decide) cl76_s13 rfl rfl ?_)
        with_reducible refine (sp_bit_is (w0 := w0) (R := ([row gB 23 (BB ++ digs f 256 ++ ZB)] :: [row b4 23 (dc k)] :: R)) (z := 1) hkb1 hk hb hA32 ).mono ?_
        rintro e' w33 ⟨rfl, hA34⟩
        refine ⟨_, rfl, fun a hF => hK _ _ (fun _ => ?_) ?_⟩
        · exact Hp.qp [[row gB 23 (BB ++ digs f 256 ++ ZB)], [row b4 23 (dc k)]] R [0, 1] hA34
        clear hK K
        replace hA34 : Hp w0 ([row gB 23 (BB ++ digs f 256 ++ ZB)] :: [row b4 23 (dc k)] :: R) w33 := hA34
        rw [show ((1 : Nat) : Int) = 1 from rfl] at hF
        refine vp_ly hF rfl rfl rfl rfl (by decide) _ (y_assign rfl rfl) (fun h => absurd h (by decide)) (fun a hF => ?_)
        refine plan_end ?_
        refine hK19 _ _ ?_; clear  hK19 K19
        apply wp_seq_k; intro K20 hK20
        refine wp_region_plan 12 [10,12] [0,1,2,3,4,5,6,7,8,9,10,11,12] (fun x => Hq w0 ([row gB 23 (BB ++ digs f 256 ++ ZB)] :: [row b4 23 (dc k)] :: R) x) (by kernel_rfl) (by kernel_rfl) (Hq.drew (Hp.qp [[row gB 23 (BB ++ digs f 256 ++ ZB)], [row b4 23 (dc k)]] R [0, 1] hA34)) ?_
        have hA35 := Hl.drew hA34
        refine vp_y hF rfl rfl rfl rfl (by decide) _ (fun x hx => y_move rfl rfl) (fun a hF => ?_)
        refine vp_y hF rfl rfl rfl rfl (by decide) _ (fun x hx => y_move rfl rfl) (fun a hF => ?_)
        refine vp_y hF rfl rfl rfl rfl (by decide) _ (fun x hx => y_nilCheck rfl rfl) (fun a hF => ?_)
        refine vp_y hF rfl rfl rfl rfl (by decide) _ (fun x hx => y_field rfl Tryd.underlying107 rfl sz3_s13 (by decide) rfl (rfl : (⟨_, 0 + _, none⟩ : Addr) = ⟨_, 66, none⟩)) (fun a hF => ?_)
        refine vp_y hF rfl rfl rfl rfl (by decide) _ (fun x hx => y_ldC rfl (Hq.sub hx (List.Subset.trans hG (subC (subC (sub0))))) rfl hN 66 (by rw [nodeC_len hL]; decide) rfl (nodeC_bit hL _ _ _ _) nr3_s13) (fun a hF => ?_)
        refine vp_y hF rfl rfl rfl rfl (by decide) _ (fun x hx => y_sub rfl rfl rfl (show IntKind.i64.wrap (255 - ((b : Nat) : Int)) = ((255 - b : Nat) : Int) by rw [IntWalk.i64_in _ (by omega)]; omega)) (fun a hF => ?_)
        refine vp_y hF rfl rfl rfl rfl (by decide) _ (fun x hx => y_move rfl rfl) (fun a hF => ?_)
        refine vp_y hF rfl rfl rfl rfl (by decide) _ (fun x hx => y_move rfl rfl) (fun a hF => ?_)
        refine vp_y hF rfl rfl rfl rfl (by decide) _ (fun x hx => y_move rfl rfl) (fun a hF => ?_)
        refine vp_y hF rfl rfl rfl rfl (by decide) _ (fun x hx => y_sub rfl rfl rfl (show IntKind.i64.wrap (1 - (1 : Int)) = 0 by decide)) (fun a hF => ?_)
        refine vp_l rfl rfl rfl (fun K hK => ws_call hF rfl (by decide) cl93_s13 rfl rfl ?_)
        with_reducible refine (rt_part0 w0 _ ([row gB 23 (BB ++ digs f 256 ++ ZB)] :: [row b4 23 (dc k)] :: R) G (List.Subset.trans hG (subC (subC (sub0)))) b l r hgi g' gs width (rt_own w0 width hT l hg1) hSm hTi hT hA35 ).mono ?_
        rintro e' w36 ⟨rfl, hA37⟩
        refine ⟨_, rfl, fun a hF => hK _ _ (fun _ => ?_) ?_⟩
        · exact Hp.qp [[row gB 23 (BB ++ digs f 256 ++ ZB)], [row b4 23 (dc k)]] R [0, 1] hA37
        clear hK K
        replace hA37 : Hp w0 ([row gB 23 (BB ++ digs f 256 ++ ZB)] :: [row b4 23 (dc k)] :: R) w36 := hA37
        refine vp_y hF rfl rfl rfl rfl (by decide) _ (fun x hx => y_ixSl rfl Tryd.underlying26 sz23_s13 rfl rfl (255 - b) rfl (by omega) rfl) (fun a hF => ?_)
        refine vp_l rfl rfl rfl (fun K hK => hs_storeRow (new := dc (l.lift width (255 - b))) hF rfl rfl hA37 rfl rfl 0 rfl (by rw [List.length_append, List.length_append, hWB, dc_length, Rx.lift_length]; omega) (dc_one _) (by rw [dc_length, Rx.lift_length]; exact sz23_s13) (fun w38 hA39 => hK _ _ (fun h => absurd h (by decide)) ?_))
        clear hK K
        replace hA39 : Hp w0 ([row gB 23 (splice (BB ++ digs f 256 ++ ZB) (BB.length + (255 - b) * 32) (dc (l.lift width (255 - b))))] :: [row b4 23 (dc k)] :: R) w38 := hA39
        refine plan_end ?_
        refine hK20 _ _ ?_; clear  hK20 K20
        refine wp_region_lit ?_
        refine vc_y hF rfl rfl (by decide) _ (y_move rfl rfl) (fun a hF => ?_)
        refine vc_y hF rfl rfl (by decide) _ (y_move rfl rfl) (fun a hF => ?_)
        refine vc_y hF rfl rfl (by decide) _ (y_nilCheck rfl rfl) (fun a hF => ?_)
        refine vc_y hF rfl rfl (by decide) _ (y_field rfl Tryd.underlying107 rfl sz104_s13 (by decide) rfl (rfl : (⟨_, 0 + _, none⟩ : Addr) = ⟨_, 67, none⟩)) (fun a hF => ?_)
        refine vc_y hF rfl rfl (by decide) _ (y_ixArr rfl Tryd.underlying104 sz43_s13 rfl rfl 1 rfl (by decide) (rfl : (⟨_, 67 + 1 * 1, none⟩ : Addr) = ⟨_, 68, none⟩) (rfl : (none : Option Nat) = none)) (fun a hF => ?_)
        refine vc_y hF rfl rfl (by decide) _ (y_ldC rfl (Hq.sub hA39.q (List.Subset.trans hG (subC (subC (sub0))))) rfl hN 68 (by rw [nodeC_len hL]; decide) rfl (nodeC_kid1 hL _ _ _ _) nr43_s13) (fun a hF => ?_)
        refine vc_y hF rfl rfl (by decide) _ (y_assign rfl rfl) (fun a hF => ?_)
        refine vc_nil ?_
        have hpu := digs_setD (f := f) (g := updF f (255 - b) (l.lift width (255 - b))) (n := 256) (h := 255 - b) (fun i _ => hfl i) (by omega) (by rw [updF_at, Rx.lift_length]) (fun i hi => updF_ne _ _ hi) []
        rw [updF_at, List.append_nil, List.append_nil] at hpu
        rw [hpu] at hB2
        have hmm : r.size < (Rx.fork b l r).size := by show _ < l.size + r.size; omega
        exact ⟨(r, gr, updF f (255 - b) (l.lift width (255 - b))), hmm, _, hg2, hTr2, BInv.side hgi hBI hp2 (.inr ⟨hkb1, rfl, rfl⟩), (fun h => by show (updF f _ _ h).length = 32; unfold updF; split; exact Rx.lift_length ..; exact hfl h), hB2, hF.keep [8, 7, 3, 5, 1] rfl, hA39⟩
end Go.Proofs.YtpomngkcfbnjoaaDoor
