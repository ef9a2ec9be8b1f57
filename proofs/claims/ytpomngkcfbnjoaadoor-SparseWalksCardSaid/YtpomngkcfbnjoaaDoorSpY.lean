/- A sparse tree: what its functions tell. -/
import Derived.Test.YtpomngkcfbnjoaaDoorSpX
import Derived.Test.YtpomngkcfbnjoaaDoorSpW
import Derived.Test.YtpomngkcfbnjoaaDoorLawNumbers
namespace Go.Proofs.YtpomngkcfbnjoaaDoor
open Go.RowKit Go.Dk

theorem rt_elemI : elemInfo Tryd.prog 54 65 72 := elemInfo_of (z := .agg (dc (List.replicate 32 0) ++ (.int .i64 0 :: dc (List.replicate 32 0))).toArray) (by kernel_rfl) (by kernel_rfl)
theorem rt_ent0 (w : World) : (Instr.build 25 #[]).run Tryd.prog w = .ok (.agg (.int .i64 0 :: dc (List.replicate 32 0)).toArray) w := by kernel_rfl
theorem rt_tree0 (w : World) : (Instr.build 45 #[]).run Tryd.prog w = .ok (.agg ([.pointer none, .slice none 0 0] : List Value).toArray) w := by kernel_rfl
theorem ent_one (c : Int) (l : List UInt8) : ∀ v ∈ (Value.int .i64 c :: dc l : List Value), v.oneCell' = true := fun v hv => by
  rcases List.mem_cons.1 hv with rfl | h
  · rfl
  · exact dc_one _ v h
theorem Itm.one (i : Itm) : ∀ v ∈ i.cells, v.oneCell' = true := fun v hv => by
  unfold Itm.cells at hv
  rcases List.mem_append.1 hv with h | h
  · exact dc_one _ v h
  · exact ent_one _ _ v h
/-- .. its empty rows' slice may be cut at 256 -/
def Sm2 (w0 : World) (R : List Seg) (f : FuncId) (g : Nat) (width : Int) : Prop := ∃ A c wb, Rw w0 R g [.int .i64 width, .slice A 257 c, .func (.func f) #[] #[.pointer (some ⟨wb, 0, none⟩)]] ∧ Rw w0 R wb [.int .i64 width] ∧ Rc w0 R A (digs (emptyL width) 257) ∧ 257 ≤ c
theorem Sm2.sm {w0 : World} {R : List Seg} {f : FuncId} {g : Nat} {width : Int} (h : Sm2 w0 R f g width) : Sm w0 R f g width := by
  obtain ⟨A, c, wb, h1, h2, h3, _⟩ := h
  exact ⟨A, c, wb, h1, h2, h3⟩
theorem Sm2.mono {w0 : World} {R S : List Seg} {f : FuncId} {g : Nat} {width : Int} (h : Sm2 w0 R f g width) (hs : R ⊆ S) : Sm2 w0 S f g width := by
  obtain ⟨A, c, wb, h1, h2, h3, h4⟩ := h
  exact ⟨A, c, wb, h1.mono hs, h2.mono hs, h3.mono hs, h4⟩
/-- a tree of items: its two cells -/
def TV (w0 : World) (G : List Seg) (L : List Itm) (top sl : Value) : Prop :=
  (L = [] ∧ top = .pointer none ∧ sl = .slice none 0 0) ∨ ∃ t g ad c, t.items = L ∧ t.Good ∧ top = ptr g ∧ sl = .slice (some ad) 257 c ∧ Tr w0 G true t g ∧ Rc w0 G (some ad) (digs (emptyL 32) 257) ∧ 257 ≤ c
theorem TV.monoF {w0 : World} {G R : List Seg} {L : List Itm} {top sl : Value} (h : TV w0 G L top sl) (hs : G.flatten ⊆ R.flatten) : TV w0 R L top sl := by
  rcases h with h | ⟨t, g, ad, c, h1, h2, h3, h4, h5, h6, h7⟩
  · exact .inl h
  · exact .inr ⟨t, g, ad, c, h1, h2, h3, h4, h5.monoF hs, h6.monoF hs, h7⟩
theorem TV.mono {w0 : World} {G R : List Seg} {L : List Itm} {top sl : Value} (h : TV w0 G L top sl) (hs : G ⊆ R) : TV w0 R L top sl := h.monoF (flat_sub hs)
theorem TV.ok {w0 : World} {G : List Seg} {L : List Itm} {top sl : Value} (h : TV w0 G L top sl) : ∀ i ∈ L, i.OK := by
  rcases h with ⟨rfl, _⟩ | ⟨t, g, ad, c, rfl, h2, _⟩
  · intro i hi; cases hi
  · exact h2.ok
theorem TV.rises {w0 : World} {G : List Seg} {L : List Itm} {top sl : Value} (h : TV w0 G L top sl) : L.Pairwise fun a b => nb a.k < nb b.k := by
  rcases h with ⟨rfl, _⟩ | ⟨t, g, ad, c, rfl, h2, _⟩
  · exact List.Pairwise.nil
  · exact h2.rises
theorem TV.one {w0 : World} {G : List Seg} {L : List Itm} {top sl : Value} (h : TV w0 G L top sl) : top.oneCell' = true ∧ sl.oneCell' = true := by
  rcases h with ⟨_, rfl, rfl⟩ | ⟨t, g, ad, c, _, _, rfl, rfl, _⟩
  · exact ⟨rfl, rfl⟩
  · exact ⟨rfl, rfl⟩
theorem Rx.getL_eq {t : Rx} (hg : t.Good) (k : List UInt8) : getL t.items k = t.find k := (Rx.find_eq hg).symm
theorem getCt_some {L : List Itm} {k : List UInt8} {i : Itm} (h : getL L k = some i) : getCt L k = i.ct := by unfold getCt; rw [h]
theorem getCh_some {L : List Itm} {k : List UInt8} {i : Itm} (h : getL L k = some i) : getCh L k = i.ch := by unfold getCh; rw [h]
theorem getCt_none {L : List Itm} {k : List UInt8} (h : getL L k = none) : getCt L k = 0 := by unfold getCt; rw [h]
theorem getCh_none {L : List Itm} {k : List UInt8} (h : getL L k = none) : getCh L k = List.replicate 32 0 := by unfold getCh; rw [h]; rfl
theorem rt_find_no (w0 w : World) (R G : List Seg) (hG : G ⊆ R) (t : Rx) (hg : t.Good) (gn : Nat) (q : Bool) (k : List UInt8) (hk : k.length = 32) (hTr : Tr w0 G q t gn) (hf : t.find k = none) (hA : Hp w0 R w) : Calls Tryd.prog 64 #[.pointer (some ⟨gn, 0, none⟩), .agg (dc k).toArray] w fun e w' => e = .returned (.pointer none) ∧ Hp w0 R w' := by
  refine (rt_find w0 w R G hG t hg gn q k hk hTr hA).mono ?_
  rintro e w' ⟨⟨_, rfl⟩ | ⟨i, g, h, _⟩, hA2⟩
  · exact ⟨rfl, hA2⟩
  · rw [hf] at h; cases h
theorem rt_find_yes (w0 w : World) (R G : List Seg) (hG : G ⊆ R) (t : Rx) (hg : t.Good) (gn : Nat) (q : Bool) (k : List UInt8) (hk : k.length = 32) (hTr : Tr w0 G q t gn) (i : Itm) (hf : t.find k = some i) (hA : Hp w0 R w) : Calls Tryd.prog 64 #[.pointer (some ⟨gn, 0, none⟩), .agg (dc k).toArray] w fun e w' => ∃ g, e = .returned (.pointer (some ⟨g, 0, none⟩)) ∧ (i.OK ∧ Rw w0 G g (leafC i)) ∧ Hp w0 R w' := by
  refine (rt_find w0 w R G hG t hg gn q k hk hTr hA).mono ?_
  rintro e w' ⟨⟨h, rfl⟩ | ⟨j, g, h, rfl, h3⟩, hA2⟩
  · rw [hf] at h; cases h
  · rw [hf] at h; cases h; exact ⟨g, rfl, h3, hA2⟩
theorem nr3_s13 : notRow Tryd.prog 3 = true := by kernel_rfl
theorem nr43_s13 : notRow Tryd.prog 43 = true := by kernel_rfl
theorem rw23_s13 : isRow Tryd.prog 23 32 = true := by kernel_rfl
theorem rw25_s13 : isRow Tryd.prog 25 33 = true := by kernel_rfl
theorem sz3_s13 : (Tryd.prog.info? 3).map (·.size) = some 1 := by kernel_rfl
theorem sz25_s13 : (Tryd.prog.info? 25).map (·.size) = some 33 := by kernel_rfl
theorem sz43_s13 : (Tryd.prog.info? 43).map (·.size) = some 1 := by kernel_rfl
theorem cl64_s13 : CallsTo Tryd.prog 64 := ⟨_, Tryd.func64, by kernel_rfl, by kernel_rfl⟩
theorem cl74_s13 : CallsTo Tryd.prog 74 := ⟨_, Tryd.func74, by kernel_rfl, by kernel_rfl⟩
theorem zr25_s13 : zeroIs Tryd.prog 25 (.agg ([.int .i64 0, .int .u8 0, .int .u8 0, .int .u8 0, .int .u8 0, .int .u8 0, .int .u8 0, .int .u8 0, .int .u8 0, .int .u8 0, .int .u8 0, .int .u8 0, .int .u8 0, .int .u8 0, .int .u8 0, .int .u8 0, .int .u8 0, .int .u8 0, .int .u8 0, .int .u8 0, .int .u8 0, .int .u8 0, .int .u8 0, .int .u8 0, .int .u8 0, .int .u8 0, .int .u8 0, .int .u8 0, .int .u8 0, .int .u8 0, .int .u8 0, .int .u8 0, .int .u8 0] : List Value).toArray) := by unfold zeroIs; kernel_rfl
set_option maxRecDepth 100000 in
set_option maxHeartbeats 2000000 in
theorem rt_at0 (w0 w : World) (R : List Seg) (width kw : Int) (hkw : kw = min (max width 1) 32) (hT : Tab w0) (hA : Hp w0 R w) : Calls Tryd.prog 54 #[.int .i64 width, .slice none 0 0] w fun e w' => ∃ g wb A c X, e = .returned (.pointer (some ⟨g, 0, none⟩)) ∧ Rc w0 [X] A (digs (emptyL kw) 257) ∧ 257 ≤ c ∧ Hp w0 ([row g 102 [.int .i64 kw, .slice A 257 c, .func (.func 82) #[] #[.pointer (some ⟨wb, 0, none⟩)]]] :: [row wb 3 [.int .i64 kw]] :: X :: R) w' := by
  refine vc_enter Tryd.func54 rfl Tryd.ntmps54 (Nat.le_of_ble_eq_true rfl) (fun a hF => ?_)
  apply wp_seq_k; intro K1 hK1
  refine wp_region_lit ?_
  refine vc_op rfl (fun K hK => hs_box1 hF rfl (by decide) rfl hA rfl rfl (fun b1 w2 a hb1 hF hA3 => hK _ _ ?_))
  clear hK K
  replace hA3 : Hp w0 ([row b1 3 [.int .i64 width]] :: R) w2 := hA3
  refine vc_y hF rfl rfl (by decide) _ (y_assign rfl rfl) (fun a hF => ?_)
  refine vc_nil ?_
  refine hK1 _ _ ?_; clear  hK1 K1
  apply wp_seq_k; intro K2 hK2
  refine wp_region_lit ?_
  refine vc_y hF rfl rfl (by decide) _ (y_ld rfl hA3.q rfl 0 rfl rfl nr3_s13) (fun a hF => ?_)
  refine vc_y hF rfl rfl (by decide) _ (y_max rfl rfl rfl rfl) (fun a hF => ?_)
  refine vc_y hF rfl rfl (by decide) _ (y_min rfl rfl rfl hkw.symm) (fun a hF => ?_)
  refine vc_op rfl (fun K hK => hs_store1 hF rfl rfl hA3 rfl rfl 0 rfl (by simp) rfl sz3_s13 (fun w4 hA5 => hK _ _ ?_))
  clear hK K
  replace hA5 : Hp w0 ([row b1 3 [.int .i64 kw]] :: R) w4 := hA5
  refine vc_nil ?_
  refine hK2 _ _ ?_; clear  hK2 K2
  apply wp_seq_k; intro K3 hK3
  apply wp_seq_k; intro K4 hK4
  refine wp_region_lit ?_
  refine vc_y hF rfl rfl (by decide) _ (y_move rfl rfl) (fun a hF => ?_)
  refine vc_y hF rfl rfl (by decide) _ (y_slNilT rfl Tryd.underlying26 rfl rfl) (fun a hF => ?_)
  refine vc_y hF rfl rfl (by decide) _ (y_move rfl rfl) (fun a hF => ?_)
  refine vc_skip hF rfl rfl rfl rfl rfl rfl (by decide) (fun a hF => ?_)
  refine vc_skip hF rfl rfl rfl rfl rfl rfl (by decide) (fun a hF => ?_)
  refine vc_y hF rfl rfl (by decide) _ (y_pick rfl rfl rfl) (fun a hF => ?_)
  refine vc_nil ?_
  refine hK4 _ _ ?_; clear  hK4 K4
  refine vc_true hF rfl ?_
  refine wp_region_lit ?_
  refine vc_y hF rfl rfl (by decide) _ (y_ld rfl hA5.q rfl 0 rfl rfl nr3_s13) (fun a hF => ?_)
  refine vc_op rfl (fun K hK => ws_call hF rfl (by decide) cl74_s13 rfl rfl ?_)
  with_reducible refine (sp_empties w0 _ ([row b1 3 [.int .i64 kw]] :: R) kw hT hA5 ).mono ?_
  rintro e' w6 ⟨ev, X, rfl, hX, hA7⟩
  refine ⟨_, rfl, fun a hF => hK _ _ ?_⟩
  clear hK K
  replace hA7 : Hp w0 (X :: [row b1 3 [.int .i64 kw]] :: R) w6 := hA7
  have hFn := hF
  obtain ⟨A, c2, rfl, hcb, hRc⟩ := hX.rc (w0 := w0) (R := [X]) (List.mem_cons_self ..)
  have hF := hFn
  refine vc_y hF rfl rfl (by decide) _ (y_assign rfl rfl) (fun a hF => ?_)
  refine vc_nil ?_
  refine hK3 _ _ ?_; clear  hK3 K3
  apply wp_seq_k; intro K5 hK5
  refine wp_region_lit ?_
  refine vc_y hF rfl rfl (by decide) _ (y_ld rfl hA7.q rfl 1 rfl rfl nr3_s13) (fun a hF => ?_)
  refine vc_y hF rfl rfl (by decide) _ (y_move rfl rfl) (fun a hF => ?_)
  refine vc_y hF rfl rfl (by decide) _ (y_makeFunc rfl rfl) (fun a hF => ?_)
  refine vc_y hF rfl rfl (by decide) _ (y_build (qs := #[(0, .int .i64 kw), (1, .slice A 257 c2), (2, .func (.func 82) #[] #[.pointer (some ⟨b1, 0, none⟩)])]) rfl rfl (rx_build3 _ _ _ _)) (fun a hF => ?_)
  refine vc_op rfl (fun K hK => hs_box (cs := [.int .i64 kw, .slice A 257 c2, .func (.func 82) #[] #[.pointer (some ⟨b1, 0, none⟩)]]) hF rfl (by decide) rfl hA7 rfl (fun b8 w9 a hb8 hF hA10 => hK _ _ ?_))
  clear hK K
  replace hA10 : Hp w0 ([row b8 102 [.int .i64 kw, .slice A 257 c2, .func (.func 82) #[] #[.pointer (some ⟨b1, 0, none⟩)]]] :: X :: [row b1 3 [.int .i64 kw]] :: R) w9 := hA10
  refine vc_y hF rfl rfl (by decide) _ (y_assign rfl rfl) (fun a hF => ?_)
  refine vc_nil ?_
  refine hK5 _ _ ?_; clear  hK5 K5
  apply wp_ret
  refine vc_ret1 hF Tryd.results54 rfl ?_
  have hA11 : Hp w0 ([row b8 102 [.int .i64 kw, .slice A 257 c2, .func (.func 82) #[] #[.pointer (some ⟨b1, 0, none⟩)]]] :: [row b1 3 [.int .i64 kw]] :: X :: R) w9 := Hp.ord [[row b8 102 [.int .i64 kw, .slice A 257 c2, .func (.func 82) #[] #[.pointer (some ⟨b1, 0, none⟩)]]], X, [row b1 3 [.int .i64 kw]]] R [0, 2, 1] hA10 rfl
  exact ⟨b8, b1, A, c2, X, rfl, hRc, hcb, hA11⟩

theorem rt_atN (w0 w : World) (R : List Seg) (width : Int) (hT : Tab w0) (hA : Hp w0 R w) : Calls Tryd.prog 54 #[.int .i64 width, .slice none 0 0] w fun e w' => ∃ gs X, e = .returned (.pointer (some ⟨gs, 0, none⟩)) ∧ Sm2 w0 [X] 82 gs (min (max width 1) 32) ∧ Hp w0 (X :: R) w' := by
  refine (rt_at0 w0 w R width _ rfl hT hA).mono ?_
  rintro e w' ⟨g, wb, A, c, X, rfl, hRc, hcb, hA2⟩
  refine ⟨g, row g 102 [.int .i64 (min (max width 1) 32), .slice A 257 c, .func (.func 82) #[] #[.pointer (some ⟨wb, 0, none⟩)]] :: (row wb 3 [.int .i64 (min (max width 1) 32)] :: X), rfl, ⟨A, c, wb, Rw.ofMem (List.mem_cons_self ..) (List.mem_cons_self ..), Rw.ofMem (List.mem_cons_self ..) (List.mem_cons_of_mem _ (List.mem_cons_self ..)), hRc.monoF (fun r hr => ?_), hcb⟩, Hp.cast hA2 (by simp only [List.flatten_cons, List.append_assoc, List.cons_append, List.nil_append])⟩
  rw [List.flatten_cons, List.flatten_nil, List.append_nil] at hr ⊢
  exact List.mem_cons_of_mem _ (List.mem_cons_of_mem _ hr)
set_option maxRecDepth 100000 in
set_option maxHeartbeats 2000000 in
theorem rt_lenS (w0 w : World) (R G : List Seg) (hG : G ⊆ R) (t : Rx) (hg : t.Good) (gn : Nat) (hTr : Tr w0 G true t gn) (sv : Value) (hA : Hp w0 R w) : Calls Tryd.prog 20 #[.agg ([.pointer (some ⟨gn, 0, none⟩), sv] : List Value).toArray] w fun e w' => e = .returned (.int .i64 ((t.size : Nat) : Int)) ∧ Hp w0 R w' := by
  obtain ⟨E, p, p', s, hL, hN⟩ := Tr.view hg hTr
  refine vc_enter Tryd.func20 rfl Tryd.ntmps20 (Nat.le_of_ble_eq_true rfl) (fun a hF => ?_)
  apply wp_seq_k; intro K1 hK1
  refine wp_region_lit ?_
  refine vc_op rfl (fun K hK => hs_box (cs := [.pointer (some ⟨gn, 0, none⟩), sv]) hF rfl (by decide) rfl hA rfl (fun b1 w2 a hb1 hF hA3 => hK _ _ ?_))
  clear hK K
  replace hA3 : Hp w0 ([row b1 45 [.pointer (some ⟨gn, 0, none⟩), sv]] :: R) w2 := hA3
  refine vc_y hF rfl rfl (by decide) _ (y_assign rfl rfl) (fun a hF => ?_)
  refine vc_nil ?_
  refine hK1 _ _ ?_; clear  hK1 K1
  apply wp_seq_k; intro K2 hK2
  apply wp_seq_k; intro K3 hK3
  refine wp_region_lit ?_
  refine vc_y hF rfl rfl (by decide) _ (y_field rfl Tryd.underlying45 rfl sz43_s13 (by decide) rfl (rfl : (⟨_, 0 + _, none⟩ : Addr) = ⟨_, 0, none⟩)) (fun a hF => ?_)
  refine vc_y hF rfl rfl (by decide) _ (y_ld rfl hA3.q rfl 0 rfl rfl nr43_s13) (fun a hF => ?_)
  refine vc_y hF rfl rfl (by decide) _ (y_eqNil rfl (by kernel_rfl) rfl rfl) (fun a hF => ?_)
  refine vc_nil ?_
  refine hK3 _ _ ?_; clear  hK3 K3
  refine vc_false hF rfl ?_
  apply wp_skip
  refine hK2 _ _ ?_; clear  hK2 K2
  apply wp_seq_k; intro K4 hK4
  refine wp_region_lit ?_
  refine vc_y hF rfl rfl (by decide) _ (y_field rfl Tryd.underlying45 rfl sz43_s13 (by decide) rfl (rfl : (⟨_, 0 + _, none⟩ : Addr) = ⟨_, 0, none⟩)) (fun a hF => ?_)
  refine vc_y hF rfl rfl (by decide) _ (y_ld rfl hA3.q rfl 0 rfl rfl nr43_s13) (fun a hF => ?_)
  refine vc_y hF rfl rfl (by decide) _ (y_nilCheck rfl rfl) (fun a hF => ?_)
  refine vc_y hF rfl rfl (by decide) _ (y_field rfl Tryd.underlying107 rfl sz3_s13 (by decide) rfl (rfl : (⟨_, 0 + _, none⟩ : Addr) = ⟨_, 65, none⟩)) (fun a hF => ?_)
  refine vc_y hF rfl rfl (by decide) _ (y_ldC rfl (Hq.sub hA3.q (List.Subset.trans hG (subC (sub0)))) rfl hN 65 (by rw [nodeC_len hL]; decide) rfl (nodeC_size hL _ _ _ _) nr3_s13) (fun a hF => ?_)
  refine vc_y hF rfl rfl (by decide) _ (y_assign rfl rfl) (fun a hF => ?_)
  refine vc_nil ?_
  refine hK4 _ _ ?_; clear  hK4 K4
  apply wp_ret
  refine vc_ret1 hF Tryd.results20 rfl ?_
  have hA4 : Hp w0 (R) w2 := Hp.sel [[row b1 45 [.pointer (some ⟨gn, 0, none⟩), sv]]] R [] [0] hA3 rfl
  exact ⟨rfl, hA4⟩

set_option maxRecDepth 100000 in
set_option maxHeartbeats 2000000 in
theorem rt_getS (w0 w : World) (R G : List Seg) (hG : G ⊆ R) (t : Rx) (hg : t.Good) (gn : Nat) (hTr : Tr w0 G true t gn) (sv : Value) (k : List UInt8) (hk : k.length = 32) (hA : Hp w0 R w) : Calls Tryd.prog 34 #[.agg ([.pointer (some ⟨gn, 0, none⟩), sv] : List Value).toArray, .agg (dc k).toArray] w fun e w' => e = .returned (.tuple #[.agg (.int .i64 (getCt t.items k) :: dc (getCh t.items k)).toArray, .bool (getL t.items k).isSome]) ∧ Hp w0 R w' := by
  have hdk : (dc k).length = 32 := by rw [dc_length, hk]
  refine vc_enter Tryd.func34 rfl Tryd.ntmps34 (Nat.le_of_ble_eq_true rfl) (fun a hF => ?_)
  apply wp_seq_k; intro K1 hK1
  refine wp_region_lit ?_
  refine vc_op rfl (fun K hK => hs_box (cs := [.pointer (some ⟨gn, 0, none⟩), sv]) hF rfl (by decide) rfl hA rfl (fun b1 w2 a hb1 hF hA3 => hK _ _ ?_))
  clear hK K
  replace hA3 : Hp w0 ([row b1 45 [.pointer (some ⟨gn, 0, none⟩), sv]] :: R) w2 := hA3
  refine vc_op rfl (fun K hK => hs_box (cs := dc k) hF rfl (by decide) rfl hA3 rfl (fun b4 w5 a hb4 hF hA6 => hK _ _ ?_))
  clear hK K
  replace hA6 : Hp w0 ([row b4 23 (dc k)] :: [row b1 45 [.pointer (some ⟨gn, 0, none⟩), sv]] :: R) w5 := hA6
  refine vc_op rfl (fun K hK => hs_alloc hF rfl (by decide) rfl hA6 (zr25_s13) (fun b7 w8 a hb7 hF hA9 => hK _ _ ?_))
  clear hK K
  replace hA9 : Hp w0 ([row b7 25 [.int .i64 0, .int .u8 0, .int .u8 0, .int .u8 0, .int .u8 0, .int .u8 0, .int .u8 0, .int .u8 0, .int .u8 0, .int .u8 0, .int .u8 0, .int .u8 0, .int .u8 0, .int .u8 0, .int .u8 0, .int .u8 0, .int .u8 0, .int .u8 0, .int .u8 0, .int .u8 0, .int .u8 0, .int .u8 0, .int .u8 0, .int .u8 0, .int .u8 0, .int .u8 0, .int .u8 0, .int .u8 0, .int .u8 0, .int .u8 0, .int .u8 0, .int .u8 0, .int .u8 0]] :: [row b4 23 (dc k)] :: [row b1 45 [.pointer (some ⟨gn, 0, none⟩), sv]] :: R) w8 := hA9
  refine vc_y hF rfl rfl (by decide) _ (y_assign rfl rfl) (fun a hF => ?_)
  refine vc_nil ?_
  refine hK1 _ _ ?_; clear  hK1 K1
  apply wp_seq_k; intro K2 hK2
  by_cases hf : t.find k = none
  · have hfk : getL t.items k = none := by rw [Rx.getL_eq hg]; exact hf
    have hct := getCt_none hfk
    have hch := getCh_none hfk
    have hss : (getL t.items k).isSome = false := by rw [hfk]; rfl
    have hel : (Value.int .i64 (getCt t.items k) :: dc (getCh t.items k)).length = 33 := by rw [hch]; rfl
    refine wp_region_lit ?_
    refine vc_y hF rfl rfl (by decide) _ (y_field rfl Tryd.underlying45 rfl sz43_s13 (by decide) rfl (rfl : (⟨_, 0 + _, none⟩ : Addr) = ⟨_, 0, none⟩)) (fun a hF => ?_)
    refine vc_y hF rfl rfl (by decide) _ (y_ld rfl hA9.q rfl 2 rfl rfl nr43_s13) (fun a hF => ?_)
    refine vc_y hF rfl rfl (by decide) _ (y_ldRow (new := dc k) rfl hA9.q rfl 1 rfl rw23_s13 (by rw [hdk]; exact Nat.le_refl _) (by rw [List.drop_zero]; exact List.take_of_length_le (by rw [hdk]; exact Nat.le_refl _))) (fun a hF => ?_)
    refine vc_op rfl (fun K hK => ws_call hF rfl (by decide) cl64_s13 rfl rfl ?_)
    with_reducible refine (rt_find_no w0 _ ([row b7 25 [.int .i64 0, .int .u8 0, .int .u8 0, .int .u8 0, .int .u8 0, .int .u8 0, .int .u8 0, .int .u8 0, .int .u8 0, .int .u8 0, .int .u8 0, .int .u8 0, .int .u8 0, .int .u8 0, .int .u8 0, .int .u8 0, .int .u8 0, .int .u8 0, .int .u8 0, .int .u8 0, .int .u8 0, .int .u8 0, .int .u8 0, .int .u8 0, .int .u8 0, .int .u8 0, .int .u8 0, .int .u8 0, .int .u8 0, .int .u8 0, .int .u8 0, .int .u8 0, .int .u8 0]] :: [row b4 23 (dc k)] :: [row b1 45 [.pointer (some ⟨gn, 0, none⟩), sv]] :: R) G (List.Subset.trans hG (subC (subC (subC (sub0))))) t hg gn true k hk hTr hf hA9 ).mono ?_
    rintro e' w10 ⟨rfl, hA11⟩
    refine ⟨_, rfl, fun a hF => hK _ _ ?_⟩
    clear hK K
    replace hA11 : Hp w0 ([row b7 25 [.int .i64 0, .int .u8 0, .int .u8 0, .int .u8 0, .int .u8 0, .int .u8 0, .int .u8 0, .int .u8 0, .int .u8 0, .int .u8 0, .int .u8 0, .int .u8 0, .int .u8 0, .int .u8 0, .int .u8 0, .int .u8 0, .int .u8 0, .int .u8 0, .int .u8 0, .int .u8 0, .int .u8 0, .int .u8 0, .int .u8 0, .int .u8 0, .int .u8 0, .int .u8 0, .int .u8 0, .int .u8 0, .int .u8 0, .int .u8 0, .int .u8 0, .int .u8 0, .int .u8 0]] :: [row b4 23 (dc k)] :: [row b1 45 [.pointer (some ⟨gn, 0, none⟩), sv]] :: R) w10 := hA11
    refine vc_y hF rfl rfl (by decide) _ (y_assign rfl rfl) (fun a hF => ?_)
    refine vc_nil ?_
    refine hK2 _ _ ?_; clear  hK2 K2
    apply wp_seq_k; intro K3 hK3
    apply wp_seq_k; intro K4 hK4
    refine wp_region_lit ?_
    refine vc_y hF rfl rfl (by decide) _ (y_move rfl rfl) (fun a hF => ?_)
    refine vc_y hF rfl rfl (by decide) _ (y_eqNilT rfl (by kernel_rfl) rfl rfl) (fun a hF => ?_)
    refine vc_nil ?_
    refine hK4 _ _ ?_; clear  hK4 K4
    refine vc_true hF rfl ?_
    apply wp_seq_k; intro K5 hK5
    refine wp_region_lit ?_
    refine vc_y hF rfl rfl (by decide) _ (y_build (v := .agg (.int .i64 (getCt t.items k) :: dc (getCh t.items k)).toArray) (qs := #[]) rfl rfl (by intro w; rw [hct, hch]; exact rt_ent0 w)) (fun a hF => ?_)
    refine vc_op rfl (fun K hK => hs_storeAll (new := .int .i64 (getCt t.items k) :: dc (getCh t.items k)) hF rfl rfl hA11 rfl rfl 0 rfl (by rw [hel]; rfl) (ent_one _ _) sz25_s13 (fun w12 hA13 => hK _ _ ?_))
    clear hK K
    replace hA13 : Hp w0 ([row b7 25 (.int .i64 (getCt t.items k) :: dc (getCh t.items k))] :: [row b4 23 (dc k)] :: [row b1 45 [.pointer (some ⟨gn, 0, none⟩), sv]] :: R) w12 := hA13
    refine vc_y hF rfl rfl (by decide) _ (y_assign rfl (show some (Value.bool false) = some (.bool (getL t.items k).isSome) by rw [hss])) (fun a hF => ?_)
    refine vc_nil ?_
    refine hK5 _ _ ?_; clear  hK5 K5
    apply wp_ret
    simp only [Exit.then]
    refine vc_retCT hF Tryd.results34 hA13.q rfl rfl 0 rfl (by rw [hel]; exact rw25_s13) ?_
    have hA14 : Hp w0 (R) w12 := Hp.sel [[row b7 25 (.int .i64 (getCt t.items k) :: dc (getCh t.items k))], [row b4 23 (dc k)], [row b1 45 [.pointer (some ⟨gn, 0, none⟩), sv]]] R [] [0, 1, 2] hA13 rfl
    exact ⟨rfl, hA14⟩
  · obtain ⟨i, hf⟩ := Option.ne_none_iff_exists'.1 hf
    have hfk : getL t.items k = some i := by rw [Rx.getL_eq hg]; exact hf
    have hct := getCt_some hfk
    have hch := getCh_some hfk
    have hss : (getL t.items k).isSome = true := by rw [hfk]; rfl
    refine wp_region_lit ?_
    refine vc_y hF rfl rfl (by decide) _ (y_field rfl Tryd.underlying45 rfl sz43_s13 (by decide) rfl (rfl : (⟨_, 0 + _, none⟩ : Addr) = ⟨_, 0, none⟩)) (fun a hF => ?_)
    refine vc_y hF rfl rfl (by decide) _ (y_ld rfl hA9.q rfl 2 rfl rfl nr43_s13) (fun a hF => ?_)
    refine vc_y hF rfl rfl (by decide) _ (y_ldRow (new := dc k) rfl hA9.q rfl 1 rfl rw23_s13 (by rw [hdk]; exact Nat.le_refl _) (by rw [List.drop_zero]; exact List.take_of_length_le (by rw [hdk]; exact Nat.le_refl _))) (fun a hF => ?_)
    refine vc_op rfl (fun K hK => ws_call hF rfl (by decide) cl64_s13 rfl rfl ?_)
    with_reducible refine (rt_find_yes w0 _ ([row b7 25 [.int .i64 0, .int .u8 0, .int .u8 0, .int .u8 0, .int .u8 0, .int .u8 0, .int .u8 0, .int .u8 0, .int .u8 0, .int .u8 0, .int .u8 0, .int .u8 0, .int .u8 0, .int .u8 0, .int .u8 0, .int .u8 0, .int .u8 0, .int .u8 0, .int .u8 0, .int .u8 0, .int .u8 0, .int .u8 0, .int .u8 0, .int .u8 0, .int .u8 0, .int .u8 0, .int .u8 0, .int .u8 0, .int .u8 0, .int .u8 0, .int .u8 0, .int .u8 0, .int .u8 0]] :: [row b4 23 (dc k)] :: [row b1 45 [.pointer (some ⟨gn, 0, none⟩), sv]] :: R) G (List.Subset.trans hG (subC (subC (subC (sub0))))) t hg gn true k hk hTr i hf hA9 ).mono ?_
    rintro e' w15 ⟨gf, rfl, ⟨hi, hNf⟩, hA16⟩
    refine ⟨_, rfl, fun a hF => hK _ _ ?_⟩
    clear hK K
    replace hA16 : Hp w0 ([row b7 25 [.int .i64 0, .int .u8 0, .int .u8 0, .int .u8 0, .int .u8 0, .int .u8 0, .int .u8 0, .int .u8 0, .int .u8 0, .int .u8 0, .int .u8 0, .int .u8 0, .int .u8 0, .int .u8 0, .int .u8 0, .int .u8 0, .int .u8 0, .int .u8 0, .int .u8 0, .int .u8 0, .int .u8 0, .int .u8 0, .int .u8 0, .int .u8 0, .int .u8 0, .int .u8 0, .int .u8 0, .int .u8 0, .int .u8 0, .int .u8 0, .int .u8 0, .int .u8 0, .int .u8 0]] :: [row b4 23 (dc k)] :: [row b1 45 [.pointer (some ⟨gn, 0, none⟩), sv]] :: R) w15 := hA16
    refine vc_y hF rfl rfl (by decide) _ (y_assign rfl rfl) (fun a hF => ?_)
    refine vc_nil ?_
    refine hK2 _ _ ?_; clear  hK2 K2
    apply wp_seq_k; intro K6 hK6
    apply wp_seq_k; intro K7 hK7
    refine wp_region_lit ?_
    refine vc_y hF rfl rfl (by decide) _ (y_move rfl rfl) (fun a hF => ?_)
    refine vc_y hF rfl rfl (by decide) _ (y_eqNil rfl (by kernel_rfl) rfl rfl) (fun a hF => ?_)
    refine vc_nil ?_
    refine hK7 _ _ ?_; clear  hK7 K7
    refine vc_false hF rfl ?_
    have hLf := NodeL.leaf hi
    have hel : (Value.int .i64 (getCt t.items k) :: dc (getCh t.items k)).length = 33 := by rw [hch, List.length_cons, dc_length, hi.ch]
    apply wp_skip
    refine hK6 _ _ ?_; clear  hK6 K6
    apply wp_seq_k; intro K8 hK8
    refine wp_region_lit ?_
    refine vc_y hF rfl rfl (by decide) _ (y_move rfl rfl) (fun a hF => ?_)
    refine vc_y hF rfl rfl (by decide) _ (y_nilCheck rfl rfl) (fun a hF => ?_)
    refine vc_y hF rfl rfl (by decide) _ (y_field rfl Tryd.underlying107 rfl sz25_s13 (by decide) rfl (rfl : (⟨_, 0 + _, none⟩ : Addr) = ⟨_, 32, none⟩)) (fun a hF => ?_)
    refine vc_y hF rfl rfl (by decide) _ (y_ldRowC rfl (Hq.sub hA16.q (List.Subset.trans hG (subC (subC (subC (sub0)))))) rfl hNf 32 (by rw [leafC_len hi]; decide) rfl (show List.take 33 (List.drop 32 (leafC i)) = .int .i64 (getCt t.items k) :: dc (getCh t.items k) by rw [hct, hch]; exact leafC_ent hi) rw25_s13) (fun a hF => ?_)
    refine vc_op rfl (fun K hK => hs_storeAll (new := .int .i64 (getCt t.items k) :: dc (getCh t.items k)) hF rfl rfl hA16 rfl rfl 0 rfl (by rw [hel]; rfl) (ent_one _ _) sz25_s13 (fun w17 hA18 => hK _ _ ?_))
    clear hK K
    replace hA18 : Hp w0 ([row b7 25 (.int .i64 (getCt t.items k) :: dc (getCh t.items k))] :: [row b4 23 (dc k)] :: [row b1 45 [.pointer (some ⟨gn, 0, none⟩), sv]] :: R) w17 := hA18
    refine vc_y hF rfl rfl (by decide) _ (y_assign rfl (show some (Value.bool true) = some (.bool (getL t.items k).isSome) by rw [hss])) (fun a hF => ?_)
    refine vc_nil ?_
    refine hK8 _ _ ?_; clear  hK8 K8
    apply wp_ret
    refine vc_retCT hF Tryd.results34 hA18.q rfl rfl 0 rfl (by rw [hel]; exact rw25_s13) ?_
    have hA19 : Hp w0 (R) w17 := Hp.sel [[row b7 25 (.int .i64 (getCt t.items k) :: dc (getCh t.items k))], [row b4 23 (dc k)], [row b1 45 [.pointer (some ⟨gn, 0, none⟩), sv]]] R [] [0, 1, 2] hA18 rfl
    exact ⟨rfl, hA19⟩

set_option maxRecDepth 100000 in
set_option maxHeartbeats 2000000 in
theorem rt_getN (w0 w : World) (R : List Seg) (k : List UInt8) (hk : k.length = 32) (hA : Hp w0 R w) : Calls Tryd.prog 34 #[.agg ([.pointer none, .slice none 0 0] : List Value).toArray, .agg (dc k).toArray] w fun e w' => e = .returned (.tuple #[.agg (.int .i64 (getCt [] k) :: dc (getCh [] k)).toArray, .bool (getL [] k).isSome]) ∧ Hp w0 R w' := by
  have hdk : (dc k).length = 32 := by rw [dc_length, hk]
  refine vc_enter Tryd.func34 rfl Tryd.ntmps34 (Nat.le_of_ble_eq_true rfl) (fun a hF => ?_)
  apply wp_seq_k; intro K1 hK1
  refine wp_region_lit ?_
  refine vc_op rfl (fun K hK => hs_box (cs := [.pointer none, .slice none 0 0]) hF rfl (by decide) rfl hA rfl (fun b1 w2 a hb1 hF hA3 => hK _ _ ?_))
  clear hK K
  replace hA3 : Hp w0 ([row b1 45 [.pointer none, .slice none 0 0]] :: R) w2 := hA3
  refine vc_op rfl (fun K hK => hs_box (cs := dc k) hF rfl (by decide) rfl hA3 rfl (fun b4 w5 a hb4 hF hA6 => hK _ _ ?_))
  clear hK K
  replace hA6 : Hp w0 ([row b4 23 (dc k)] :: [row b1 45 [.pointer none, .slice none 0 0]] :: R) w5 := hA6
  refine vc_op rfl (fun K hK => hs_alloc hF rfl (by decide) rfl hA6 (zr25_s13) (fun b7 w8 a hb7 hF hA9 => hK _ _ ?_))
  clear hK K
  replace hA9 : Hp w0 ([row b7 25 [.int .i64 0, .int .u8 0, .int .u8 0, .int .u8 0, .int .u8 0, .int .u8 0, .int .u8 0, .int .u8 0, .int .u8 0, .int .u8 0, .int .u8 0, .int .u8 0, .int .u8 0, .int .u8 0, .int .u8 0, .int .u8 0, .int .u8 0, .int .u8 0, .int .u8 0, .int .u8 0, .int .u8 0, .int .u8 0, .int .u8 0, .int .u8 0, .int .u8 0, .int .u8 0, .int .u8 0, .int .u8 0, .int .u8 0, .int .u8 0, .int .u8 0, .int .u8 0, .int .u8 0]] :: [row b4 23 (dc k)] :: [row b1 45 [.pointer none, .slice none 0 0]] :: R) w8 := hA9
  refine vc_y hF rfl rfl (by decide) _ (y_assign rfl rfl) (fun a hF => ?_)
  refine vc_nil ?_
  refine hK1 _ _ ?_; clear  hK1 K1
  apply wp_seq_k; intro K2 hK2
  have hfk : getL [] k = none := rfl
  have hct := getCt_none hfk
  have hch := getCh_none hfk
  have hss : (getL [] k).isSome = false := by rw [hfk]; rfl
  have hel : (Value.int .i64 (getCt [] k) :: dc (getCh [] k)).length = 33 := by rw [hch]; rfl
  refine wp_region_lit ?_
  refine vc_y hF rfl rfl (by decide) _ (y_field rfl Tryd.underlying45 rfl sz43_s13 (by decide) rfl (rfl : (⟨_, 0 + _, none⟩ : Addr) = ⟨_, 0, none⟩)) (fun a hF => ?_)
  refine vc_y hF rfl rfl (by decide) _ (y_ld rfl hA9.q rfl 2 rfl rfl nr43_s13) (fun a hF => ?_)
  refine vc_y hF rfl rfl (by decide) _ (y_ldRow (new := dc k) rfl hA9.q rfl 1 rfl rw23_s13 (by rw [hdk]; exact Nat.le_refl _) (by rw [List.drop_zero]; exact List.take_of_length_le (by rw [hdk]; exact Nat.le_refl _))) (fun a hF => ?_)
  refine vc_op rfl (fun K hK => ws_call hF rfl (by decide) cl64_s13 rfl rfl ?_)
  with_reducible refine (rt_find0 w0 _ ([row b7 25 [.int .i64 0, .int .u8 0, .int .u8 0, .int .u8 0, .int .u8 0, .int .u8 0, .int .u8 0, .int .u8 0, .int .u8 0, .int .u8 0, .int .u8 0, .int .u8 0, .int .u8 0, .int .u8 0, .int .u8 0, .int .u8 0, .int .u8 0, .int .u8 0, .int .u8 0, .int .u8 0, .int .u8 0, .int .u8 0, .int .u8 0, .int .u8 0, .int .u8 0, .int .u8 0, .int .u8 0, .int .u8 0, .int .u8 0, .int .u8 0, .int .u8 0, .int .u8 0, .int .u8 0]] :: [row b4 23 (dc k)] :: [row b1 45 [.pointer none, .slice none 0 0]] :: R) k hA9 ).mono ?_
  rintro e' w10 ⟨rfl, hA11⟩
  refine ⟨_, rfl, fun a hF => hK _ _ ?_⟩
  clear hK K
  replace hA11 : Hp w0 ([row b7 25 [.int .i64 0, .int .u8 0, .int .u8 0, .int .u8 0, .int .u8 0, .int .u8 0, .int .u8 0, .int .u8 0, .int .u8 0, .int .u8 0, .int .u8 0, .int .u8 0, .int .u8 0, .int .u8 0, .int .u8 0, .int .u8 0, .int .u8 0, .int .u8 0, .int .u8 0, .int .u8 0, .int .u8 0, .int .u8 0, .int .u8 0, .int .u8 0, .int .u8 0, .int .u8 0, .int .u8 0, .int .u8 0, .int .u8 0, .int .u8 0, .int .u8 0, .int .u8 0, .int .u8 0]] :: [row b4 23 (dc k)] :: [row b1 45 [.pointer none, .slice none 0 0]] :: R) w10 := hA11
  refine vc_y hF rfl rfl (by decide) _ (y_assign rfl rfl) (fun a hF => ?_)
  refine vc_nil ?_
  refine hK2 _ _ ?_; clear  hK2 K2
  apply wp_seq_k; intro K3 hK3
  apply wp_seq_k; intro K4 hK4
  refine wp_region_lit ?_
  refine vc_y hF rfl rfl (by decide) _ (y_move rfl rfl) (fun a hF => ?_)
  refine vc_y hF rfl rfl (by decide) _ (y_eqNilT rfl (by kernel_rfl) rfl rfl) (fun a hF => ?_)
  refine vc_nil ?_
  refine hK4 _ _ ?_; clear  hK4 K4
  refine vc_true hF rfl ?_
  apply wp_seq_k; intro K5 hK5
  refine wp_region_lit ?_
  refine vc_y hF rfl rfl (by decide) _ (y_build (v := .agg (.int .i64 (getCt [] k) :: dc (getCh [] k)).toArray) (qs := #[]) rfl rfl (by intro w; rw [hct, hch]; exact rt_ent0 w)) (fun a hF => ?_)
  refine vc_op rfl (fun K hK => hs_storeAll (new := .int .i64 (getCt [] k) :: dc (getCh [] k)) hF rfl rfl hA11 rfl rfl 0 rfl (by rw [hel]; rfl) (ent_one _ _) sz25_s13 (fun w12 hA13 => hK _ _ ?_))
  clear hK K
  replace hA13 : Hp w0 ([row b7 25 (.int .i64 (getCt [] k) :: dc (getCh [] k))] :: [row b4 23 (dc k)] :: [row b1 45 [.pointer none, .slice none 0 0]] :: R) w12 := hA13
  refine vc_y hF rfl rfl (by decide) _ (y_assign rfl (show some (Value.bool false) = some (.bool (getL [] k).isSome) by rw [hss])) (fun a hF => ?_)
  refine vc_nil ?_
  refine hK5 _ _ ?_; clear  hK5 K5
  apply wp_ret
  simp only [Exit.then]
  refine vc_retCT hF Tryd.results34 hA13.q rfl rfl 0 rfl (by rw [hel]; exact rw25_s13) ?_
  have hA14 : Hp w0 (R) w12 := Hp.sel [[row b7 25 (.int .i64 (getCt [] k) :: dc (getCh [] k))], [row b4 23 (dc k)], [row b1 45 [.pointer none, .slice none 0 0]]] R [] [0, 1, 2] hA13 rfl
  exact ⟨rfl, hA14⟩

theorem rt_len (w0 w : World) (R G : List Seg) (hG : G ⊆ R) (L : List Itm) (top sl : Value) (h : TV w0 G L top sl) (hA : Hp w0 R w) : Calls Tryd.prog 20 #[.agg ([top, sl] : List Value).toArray] w fun e w' => e = .returned (.int .i64 ((L.length : Nat) : Int)) ∧ Hp w0 R w' := by
  rcases h with ⟨rfl, rfl, rfl⟩ | ⟨t, g, ad, c, rfl, hg, rfl, rfl, hTr, hRc, hcb⟩
  · exact rx_len0 w0 w R hA
  · rw [← t.size_eq]; exact rt_lenS w0 w R G hG t hg g hTr _ hA
theorem rt_get (w0 w : World) (R G : List Seg) (hG : G ⊆ R) (L : List Itm) (top sl : Value) (h : TV w0 G L top sl) (k : List UInt8) (hk : k.length = 32) (hA : Hp w0 R w) : Calls Tryd.prog 34 #[.agg ([top, sl] : List Value).toArray, .agg (dc k).toArray] w fun e w' => e = .returned (.tuple #[.agg (.int .i64 (getCt L k) :: dc (getCh L k)).toArray, .bool (getL L k).isSome]) ∧ Hp w0 R w' := by
  rcases h with ⟨rfl, rfl, rfl⟩ | ⟨t, g, ad, c, rfl, hg, rfl, rfl, hTr, hRc, hcb⟩
  · exact rt_getN w0 w R k hk hA
  · exact rt_getS w0 w R G hG t hg g hTr _ k hk hA
end Go.Proofs.YtpomngkcfbnjoaaDoor
