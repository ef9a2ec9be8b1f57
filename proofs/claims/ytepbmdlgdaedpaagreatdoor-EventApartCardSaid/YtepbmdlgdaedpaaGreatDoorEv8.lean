/- Values and events held against one another. -/
import Derived.Test.YtepbmdlgdaedpaaGreatDoorEv7
import Derived.Test.YtepbmdlgdaedpaaGreatDoorBk
namespace Go.Proofs.YtepbmdlgdaedpaaGreatDoor
open Go.RowKit Go.Dk

theorem nr3_v8 : notRow Tryz.prog 3 = true := by kernel_rfl
theorem nr9_v8 : notRow Tryz.prog 9 = true := by kernel_rfl
theorem nr22_v8 : notRow Tryz.prog 22 = true := by kernel_rfl
theorem nr23_v8 : notRow Tryz.prog 23 = true := by kernel_rfl
theorem nr26_v8 : notRow Tryz.prog 26 = true := by kernel_rfl
theorem nr27_v8 : notRow Tryz.prog 27 = true := by kernel_rfl
theorem rw25_v8 : isRow Tryz.prog 25 4 = true := by kernel_rfl
theorem rw29_v8 : isRow Tryz.prog 29 32 = true := by kernel_rfl
theorem sz3_v8 : (Tryz.prog.info? 3).map (·.size) = some 1 := by kernel_rfl
theorem sz5_v8 : (Tryz.prog.info? 5).map (·.size) = some 1 := by kernel_rfl
theorem sz9_v8 : (Tryz.prog.info? 9).map (·.size) = some 1 := by kernel_rfl
theorem sz22_v8 : (Tryz.prog.info? 22).map (·.size) = some 1 := by kernel_rfl
theorem sz23_v8 : (Tryz.prog.info? 23).map (·.size) = some 1 := by kernel_rfl
theorem sz25_v8 : (Tryz.prog.info? 25).map (·.size) = some 4 := by kernel_rfl
theorem sz26_v8 : (Tryz.prog.info? 26).map (·.size) = some 1 := by kernel_rfl
theorem sz27_v8 : (Tryz.prog.info? 27).map (·.size) = some 1 := by kernel_rfl
theorem sz29_v8 : (Tryz.prog.info? 29).map (·.size) = some 32 := by kernel_rfl
theorem cl23_v8 : CallsTo Tryz.prog 23 := ⟨_, Tryz.func23, by kernel_rfl, by kernel_rfl⟩
theorem cl25_v8 : CallsTo Tryz.prog 25 := ⟨_, Tryz.func25, by kernel_rfl, by kernel_rfl⟩
theorem cl86_v8 : CallsTo Tryz.prog 86 := ⟨_, Tryz.func86, by kernel_rfl, by kernel_rfl⟩
theorem cl92_v8 : CallsTo Tryz.prog 92 := ⟨_, Tryz.func92, by kernel_rfl, by kernel_rfl⟩

theorem val_eq {a b : Val} : a = b ↔ a.k = b.k ∧ a.n = b.n ∧ a.t = b.t ∧ a.s = b.s := by
  cases a; cases b
  simp
instance : DecidableEq Val := fun a b => decidable_of_iff _ (val_eq (a := a) (b := b)).symm
theorem same_val {va vb : VA} : ((((cmpB .eql (va.v.k) (vb.v.k)) && (cmpB .eql (va.v.n) (vb.v.n))) && (strB .eql va.v.t vb.v.t)) && ((decide (va.v.s = vb.v.s)))) = decide (va.v = vb.v) := by
  rw [Bool.eq_iff_iff]
  simp only [cmpB, strB, Bool.and_eq_true, decide_eq_true_eq, beq_iff_eq, val_eq, and_assoc]

set_option maxRecDepth 100000 in
set_option maxHeartbeats 4000000 in
theorem ev_sameV {w0 : World} {R : List Seg} {G H : List Seg} (va vb : VA) (w : World) (hV : va.Ok w0 G) (hG : G ⊆ R) (hW : vb.Ok w0 H) (hH : H ⊆ R) (hA : Hp w0 R w) : Calls Tryz.prog 25 #[.agg va.cells.toArray, .agg vb.cells.toArray] w fun e w' => e = .returned (.bool (decide (va.v = vb.v))) ∧ Hp w0 R w' := by
  have hn := hV.n
  have hm := hW.n
  refine vc_enter Tryz.func25 rfl Tryz.ntmps25 (Nat.le_of_ble_eq_true rfl) (fun a hF => ?_)
  apply wp_seq_k; intro K1 hK1
  refine wp_region_lit ?_
  refine vc_op rfl (fun K hK => hs_box (cs := [.int .i64 va.v.k, .int .i64 va.v.n, strV va.v.t, .slice va.sA va.v.s.length va.sC]) hF rfl (by decide) rfl hA rfl (fun b1 w2 a hb1 hF hA3 => hK _ _ ?_))
  clear hK K
  replace hA3 : Hp w0 ([row b1 25 [.int .i64 va.v.k, .int .i64 va.v.n, strV va.v.t, .slice va.sA va.v.s.length va.sC]] :: R) w2 := hA3
  refine vc_op rfl (fun K hK => hs_box (cs := [.int .i64 vb.v.k, .int .i64 vb.v.n, strV vb.v.t, .slice vb.sA vb.v.s.length vb.sC]) hF rfl (by decide) rfl hA3 rfl (fun b4 w5 a hb4 hF hA6 => hK _ _ ?_))
  clear hK K
  replace hA6 : Hp w0 ([row b4 25 [.int .i64 vb.v.k, .int .i64 vb.v.n, strV vb.v.t, .slice vb.sA vb.v.s.length vb.sC]] :: [row b1 25 [.int .i64 va.v.k, .int .i64 va.v.n, strV va.v.t, .slice va.sA va.v.s.length va.sC]] :: R) w5 := hA6
  refine vc_y hF rfl rfl (by decide) _ (y_assign rfl rfl) (fun a hF => ?_)
  refine vc_nil ?_
  refine hK1 _ _ ?_; clear  hK1 K1
  apply wp_seq_k; intro K2 hK2
  refine wp_region_lit ?_
  refine vc_y hF rfl rfl (by decide) _ (y_field rfl Tryz.underlying25 rfl sz22_v8 (by decide) rfl (rfl : (⟨_, 0 + _, none⟩ : Addr) = ⟨_, 0, none⟩)) (fun a hF => ?_)
  refine vc_y hF rfl rfl (by decide) _ (y_ld rfl hA6.q rfl 1 rfl rfl nr22_v8) (fun a hF => ?_)
  refine vc_y hF rfl rfl (by decide) _ (y_field rfl Tryz.underlying25 rfl sz22_v8 (by decide) rfl (rfl : (⟨_, 0 + _, none⟩ : Addr) = ⟨_, 0, none⟩)) (fun a hF => ?_)
  refine vc_y hF rfl rfl (by decide) _ (y_ld rfl hA6.q rfl 0 rfl rfl nr22_v8) (fun a hF => ?_)
  refine vc_y hF rfl rfl (by decide) _ (y_cmp rfl rfl rfl rfl rfl) (fun a hF => ?_)
  refine vc_y hF rfl rfl (by decide) _ (y_move rfl rfl) (fun a hF => ?_)
  refine vc_meet (l2 := ?lA1) hF [(16, .bool ((cmpB .eql (va.v.k) (vb.v.k)) && (cmpB .eql (va.v.n) (vb.v.n)))), (0, .agg ([.int .i64 va.v.k, .int .i64 va.v.n, strV va.v.t, .slice va.sA va.v.s.length va.sC]).toArray), (1, .agg ([.int .i64 vb.v.k, .int .i64 vb.v.n, strV vb.v.t, .slice vb.sA vb.v.s.length vb.sC]).toArray), (2, .pointer (some ⟨b1, 0, none⟩)), (3, .pointer (some ⟨b4, 0, none⟩)), (4, .bool false)] (fun hJ1 => ?elA1) (fun a hF => ?flA1)
  case elA1 =>
    rcases tf (cmpB .eql (va.v.k) (vb.v.k)) with hg1 | hg1
    · refine vc_skip hF rfl rfl rfl rfl rfl (ne_want hg1) (by decide) (fun a hF => ?_)
      refine vc_skip hF rfl rfl rfl rfl rfl (ne_want hg1) (by decide) (fun a hF => ?_)
      refine vc_skip hF rfl rfl rfl rfl rfl (ne_want hg1) (by decide) (fun a hF => ?_)
      refine vc_skip hF rfl rfl rfl rfl rfl (ne_want hg1) (by decide) (fun a hF => ?_)
      refine vc_skip hF rfl rfl rfl rfl rfl (ne_want hg1) (by decide) (fun a hF => ?_)
      refine vc_y hF rfl rfl (by decide) _ (y_pickF hg1 rfl rfl rfl) (fun a hF => ?_)
      exact hJ1 _ ((hF.keep [16, 0, 1, 2, 3, 4] (F' := [(16, _), (0, _), (1, _), (2, _), (3, _), (4, _)]) rfl).bool (by rw [hg1]; rfl))
    · refine vc_yg hF rfl rfl rfl rfl (some_bool hg1) (by decide) _ (y_field rfl Tryz.underlying25 rfl sz3_v8 (by decide) rfl (rfl : (⟨_, 0 + _, none⟩ : Addr) = ⟨_, 1, none⟩)) (fun a hF => ?_)
      refine vc_yg hF rfl rfl rfl rfl (some_bool hg1) (by decide) _ (y_ld rfl hA6.q rfl 1 rfl rfl nr3_v8) (fun a hF => ?_)
      refine vc_yg hF rfl rfl rfl rfl (some_bool hg1) (by decide) _ (y_field rfl Tryz.underlying25 rfl sz3_v8 (by decide) rfl (rfl : (⟨_, 0 + _, none⟩ : Addr) = ⟨_, 1, none⟩)) (fun a hF => ?_)
      refine vc_yg hF rfl rfl rfl rfl (some_bool hg1) (by decide) _ (y_ld rfl hA6.q rfl 0 rfl rfl nr3_v8) (fun a hF => ?_)
      refine vc_yg hF rfl rfl rfl rfl (some_bool hg1) (by decide) _ (y_cmp rfl rfl rfl rfl rfl) (fun a hF => ?_)
      refine vc_y hF rfl rfl (by decide) _ (y_pickT hg1 rfl rfl rfl) (fun a hF => ?_)
      exact hJ1 _ ((hF.keep [16, 0, 1, 2, 3, 4] (F' := [(16, _), (0, _), (1, _), (2, _), (3, _), (4, _)]) rfl).bool (by rw [hg1]; rfl))
  refine vc_y hF rfl rfl (by decide) _ (y_move rfl rfl) (fun a hF => ?_)
  refine vc_meet (l2 := ?lA2) hF [(23, .bool (((cmpB .eql (va.v.k) (vb.v.k)) && (cmpB .eql (va.v.n) (vb.v.n))) && (strB .eql va.v.t vb.v.t))), (0, .agg ([.int .i64 va.v.k, .int .i64 va.v.n, strV va.v.t, .slice va.sA va.v.s.length va.sC]).toArray), (1, .agg ([.int .i64 vb.v.k, .int .i64 vb.v.n, strV vb.v.t, .slice vb.sA vb.v.s.length vb.sC]).toArray), (2, .pointer (some ⟨b1, 0, none⟩)), (3, .pointer (some ⟨b4, 0, none⟩)), (4, .bool false)] (fun hJ2 => ?elA2) (fun a hF => ?flA2)
  case elA2 =>
    rcases tf ((cmpB .eql (va.v.k) (vb.v.k)) && (cmpB .eql (va.v.n) (vb.v.n))) with hg2 | hg2
    · refine vc_skip hF rfl rfl rfl rfl rfl (ne_want hg2) (by decide) (fun a hF => ?_)
      refine vc_skip hF rfl rfl rfl rfl rfl (ne_want hg2) (by decide) (fun a hF => ?_)
      refine vc_skip hF rfl rfl rfl rfl rfl (ne_want hg2) (by decide) (fun a hF => ?_)
      refine vc_skip hF rfl rfl rfl rfl rfl (ne_want hg2) (by decide) (fun a hF => ?_)
      refine vc_skip hF rfl rfl rfl rfl rfl (ne_want hg2) (by decide) (fun a hF => ?_)
      refine vc_y hF rfl rfl (by decide) _ (y_pickF hg2 rfl rfl rfl) (fun a hF => ?_)
      exact hJ2 _ ((hF.keep [23, 0, 1, 2, 3, 4] (F' := [(23, _), (0, _), (1, _), (2, _), (3, _), (4, _)]) rfl).bool (by rw [hg2]; rfl))
    · refine vc_yg hF rfl rfl rfl rfl (some_bool hg2) (by decide) _ (y_field rfl Tryz.underlying25 rfl sz9_v8 (by decide) rfl (rfl : (⟨_, 0 + _, none⟩ : Addr) = ⟨_, 2, none⟩)) (fun a hF => ?_)
      refine vc_yg hF rfl rfl rfl rfl (some_bool hg2) (by decide) _ (y_ld rfl hA6.q rfl 1 rfl rfl nr9_v8) (fun a hF => ?_)
      refine vc_yg hF rfl rfl rfl rfl (some_bool hg2) (by decide) _ (y_field rfl Tryz.underlying25 rfl sz9_v8 (by decide) rfl (rfl : (⟨_, 0 + _, none⟩ : Addr) = ⟨_, 2, none⟩)) (fun a hF => ?_)
      refine vc_yg hF rfl rfl rfl rfl (some_bool hg2) (by decide) _ (y_ld rfl hA6.q rfl 0 rfl rfl nr9_v8) (fun a hF => ?_)
      refine vc_yg hF rfl rfl rfl rfl (some_bool hg2) (by decide) _ (y_cmpS rfl rfl rfl rfl rfl) (fun a hF => ?_)
      refine vc_y hF rfl rfl (by decide) _ (y_pickT hg2 rfl rfl rfl) (fun a hF => ?_)
      exact hJ2 _ ((hF.keep [23, 0, 1, 2, 3, 4] (F' := [(23, _), (0, _), (1, _), (2, _), (3, _), (4, _)]) rfl).bool (by rw [hg2]; rfl))
  refine vc_y hF rfl rfl (by decide) _ (y_move rfl rfl) (fun a hF => ?_)
  refine vc_meetW (l2 := ?lA3) hF (fun x => Hp w0 ([row b4 25 [.int .i64 vb.v.k, .int .i64 vb.v.n, strV vb.v.t, .slice vb.sA vb.v.s.length vb.sC]] :: [row b1 25 [.int .i64 va.v.k, .int .i64 va.v.n, strV va.v.t, .slice va.sA va.v.s.length va.sC]] :: R) x) [(30, .bool ((((cmpB .eql (va.v.k) (vb.v.k)) && (cmpB .eql (va.v.n) (vb.v.n))) && (strB .eql va.v.t vb.v.t)) && ((decide (va.v.s = vb.v.s))))), (0, .agg ([.int .i64 va.v.k, .int .i64 va.v.n, strV va.v.t, .slice va.sA va.v.s.length va.sC]).toArray), (1, .agg ([.int .i64 vb.v.k, .int .i64 vb.v.n, strV vb.v.t, .slice vb.sA vb.v.s.length vb.sC]).toArray), (4, .bool false)] (fun hJ3 => ?elA3) (fun a w7 hF hA8 => ?flA3)
  case elA3 =>
    rcases tf (((cmpB .eql (va.v.k) (vb.v.k)) && (cmpB .eql (va.v.n) (vb.v.n))) && (strB .eql va.v.t vb.v.t)) with hg3 | hg3
    · refine vc_skip hF rfl rfl rfl rfl rfl (ne_want hg3) (by decide) (fun a hF => ?_)
      refine vc_skip hF rfl rfl rfl rfl rfl (ne_want hg3) (by decide) (fun a hF => ?_)
      refine vc_skip hF rfl rfl rfl rfl rfl (ne_want hg3) (by decide) (fun a hF => ?_)
      refine vc_skip hF rfl rfl rfl rfl rfl (ne_want hg3) (by decide) (fun a hF => ?_)
      refine vc_skip hF rfl rfl rfl rfl rfl (ne_want hg3) (by decide) (fun a hF => ?_)
      refine vc_y hF rfl rfl (by decide) _ (y_pickF hg3 rfl rfl rfl) (fun a hF => ?_)
      exact hJ3 _ _ ((hF.keep [30, 0, 1, 4] (F' := [(30, _), (0, _), (1, _), (4, _)]) rfl).bool (by rw [hg3]; rfl)) hA6
    · refine vc_yg hF rfl rfl rfl rfl (some_bool hg3) (by decide) _ (y_field rfl Tryz.underlying25 rfl sz23_v8 (by decide) rfl (rfl : (⟨_, 0 + _, none⟩ : Addr) = ⟨_, 3, none⟩)) (fun a hF => ?_)
      refine vc_yg hF rfl rfl rfl rfl (some_bool hg3) (by decide) _ (y_ld rfl hA6.q rfl 1 rfl rfl nr23_v8) (fun a hF => ?_)
      refine vc_yg hF rfl rfl rfl rfl (some_bool hg3) (by decide) _ (y_field rfl Tryz.underlying25 rfl sz23_v8 (by decide) rfl (rfl : (⟨_, 0 + _, none⟩ : Addr) = ⟨_, 3, none⟩)) (fun a hF => ?_)
      refine vc_yg hF rfl rfl rfl rfl (some_bool hg3) (by decide) _ (y_ld rfl hA6.q rfl 0 rfl rfl nr23_v8) (fun a hF => ?_)
      refine vc_opg hF rfl rfl rfl (some_bool hg3) (fun K hK => ws_call hF rfl (by decide) cl92_v8 rfl rfl ?_)
      with_reducible refine (bk_same_strings w0 _ ([row b4 25 [.int .i64 vb.v.k, .int .i64 vb.v.n, strV vb.v.t, .slice vb.sA vb.v.s.length vb.sC]] :: [row b1 25 [.int .i64 va.v.k, .int .i64 va.v.n, strV va.v.t, .slice va.sA va.v.s.length va.sC]] :: R) va.sA vb.sA va.v.s vb.v.s va.sC vb.sC (hV.rc.mono (List.Subset.trans hG (subC (subC (sub0))))) (hW.rc.mono (List.Subset.trans hH (subC (subC (sub0))))) hA6 hV.n ).mono ?_
      rintro e' w9 ⟨rfl, hA10⟩
      refine ⟨_, rfl, fun a hF => hK _ _ ?_⟩
      clear hK K
      replace hA10 : Hp w0 ([row b4 25 [.int .i64 vb.v.k, .int .i64 vb.v.n, strV vb.v.t, .slice vb.sA vb.v.s.length vb.sC]] :: [row b1 25 [.int .i64 va.v.k, .int .i64 va.v.n, strV va.v.t, .slice va.sA va.v.s.length va.sC]] :: R) w9 := hA10
      refine vc_y hF rfl rfl (by decide) _ (y_pickT hg3 rfl rfl rfl) (fun a hF => ?_)
      exact hJ3 _ _ ((hF.keep [30, 0, 1, 4] (F' := [(30, _), (0, _), (1, _), (4, _)]) rfl).bool (by rw [hg3]; rfl)) hA10
  replace hA8 : Hp w0 ([row b4 25 [.int .i64 vb.v.k, .int .i64 vb.v.n, strV vb.v.t, .slice vb.sA vb.v.s.length vb.sC]] :: [row b1 25 [.int .i64 va.v.k, .int .i64 va.v.n, strV va.v.t, .slice va.sA va.v.s.length va.sC]] :: R) w7 := hA8
  refine vc_y hF rfl rfl (by decide) _ (y_assign rfl rfl) (fun a hF => ?_)
  refine vc_nil ?_
  refine hK2 _ _ ?_; clear  hK2 K2
  apply wp_ret
  refine vc_ret1 hF Tryz.results25 rfl ?_
  have hA11 : Hp w0 (R) w7 := Hp.sel [[row b4 25 [.int .i64 vb.v.k, .int .i64 vb.v.n, strV vb.v.t, .slice vb.sA vb.v.s.length vb.sC]], [row b1 25 [.int .i64 va.v.k, .int .i64 va.v.n, strV va.v.t, .slice va.sA va.v.s.length va.sC]]] R [] [0, 1] hA8 rfl
  exact ⟨by rw [same_val], hA11⟩

set_option maxRecDepth 100000 in
set_option maxHeartbeats 4000000 in
theorem ev_sameB {w0 : World} {R : List Seg} {A1 A2 : Option Addr} {l1 l2 : List UInt8} {c1 c2 : Nat} (w : World) (hR1 : Rd w0 R A1 l1) (hR2 : Rd w0 R A2 l2) (hn : l1.length ≤ 9223372036854775807) (hA : Hp w0 R w) : Calls Tryz.prog 23 #[.slice A1 l1.length c1, .slice A2 l2.length c2] w fun e w' => e = .returned (.bool (decide (l1 = l2))) ∧ Hp w0 R w' := by
  refine vc_enter Tryz.func23 rfl Tryz.ntmps23 (Nat.le_of_ble_eq_true rfl) (fun a hF => ?_)
  apply wp_seq_k; intro K1 hK1
  refine wp_region_lit ?_
  refine vc_y hF rfl rfl (by decide) _ (y_assign rfl rfl) (fun a hF => ?_)
  refine vc_nil ?_
  refine hK1 _ _ ?_; clear  hK1 K1
  apply wp_seq_k; intro K2 hK2
  refine wp_region_lit ?_
  refine vc_y hF rfl rfl (by decide) _ (y_move rfl rfl) (fun a hF => ?_)
  refine vc_y hF rfl rfl (by decide) _ (y_move rfl rfl) (fun a hF => ?_)
  refine vc_op rfl (fun K hK => ws_call hF rfl (by decide) cl86_v8 rfl rfl ?_)
  with_reducible refine (bk_same_bytes w0 _ R A1 A2 l1 l2 c1 c2 hR1 hR2 hA hn ).mono ?_
  rintro e' w1 ⟨rfl, hA2⟩
  refine ⟨_, rfl, fun a hF => hK _ _ ?_⟩
  clear hK K
  replace hA2 : Hp w0 (R) w1 := hA2
  refine vc_y hF rfl rfl (by decide) _ (y_assign rfl rfl) (fun a hF => ?_)
  refine vc_nil ?_
  refine hK2 _ _ ?_; clear  hK2 K2
  apply wp_ret
  refine vc_ret1 hF Tryz.results23 rfl ?_
  exact ⟨rfl, hA2⟩
theorem event_eq {a b : Ev} : a = b ↔ a.op = b.op ∧ a.num = b.num ∧ a.clk = b.clk ∧ a.typ = b.typ ∧ a.cas = b.cas ∧ a.nam = b.nam ∧ a.v = b.v ∧ a.args = b.args ∧ a.src = b.src ∧ a.eff = b.eff := by
  cases a; cases b
  simp
instance : DecidableEq Ev := fun a b => decidable_of_iff _ (event_eq (a := a) (b := b)).symm
def HdEq (ea eb : EA) : Prop := ea.op = eb.op ∧ ea.num = eb.num ∧ ea.clk = eb.clk ∧ ea.typ = eb.typ ∧ ea.cas = eb.cas ∧ ea.nam = eb.nam ∧ ea.eff = eb.eff
theorem hd_iff {ea eb : EA} : (((((((cmpB .neq (ea.op) (eb.op)) || (cmpB .neq (ea.num) (eb.num))) || (cmpB .neq (ea.clk) (eb.clk))) || (strB .neq ea.typ eb.typ)) || (strB .neq ea.cas eb.cas)) || (strB .neq ea.nam eb.nam)) || (!(decide (ea.eff = eb.eff)))) = false ↔ HdEq ea eb := by
  unfold HdEq
  simp only [cmpB, strB, Bool.or_eq_false_iff, bne_eq_false_iff_eq, Bool.not_eq_false', beq_iff_eq, decide_eq_true_eq, and_assoc]
theorem hd_ok {ea eb : EA} (h : (((((((cmpB .neq (ea.op) (eb.op)) || (cmpB .neq (ea.num) (eb.num))) || (cmpB .neq (ea.clk) (eb.clk))) || (strB .neq ea.typ eb.typ)) || (strB .neq ea.cas eb.cas)) || (strB .neq ea.nam eb.nam)) || (!(decide (ea.eff = eb.eff)))) = false) : HdEq ea eb := hd_iff.1 h
theorem hd_no {ea eb : EA} (h : (((((((cmpB .neq (ea.op) (eb.op)) || (cmpB .neq (ea.num) (eb.num))) || (cmpB .neq (ea.clk) (eb.clk))) || (strB .neq ea.typ eb.typ)) || (strB .neq ea.cas eb.cas)) || (strB .neq ea.nam eb.nam)) || (!(decide (ea.eff = eb.eff)))) = true) : decide (ea.ev = eb.ev) = false := decide_eq_false fun e => by
  obtain ⟨e1, e2, e3, e4, e5, e6, _, _, _, e10⟩ := event_eq.1 e
  rw [hd_iff.2 ⟨e1, e2, e3, e4, e5, e6, e10⟩] at h
  exact absurd h (by decide)
theorem ln_iff {ea eb : EA} : (((!(decide (ea.v.v = eb.v.v))) || (!(decide (ea.src = eb.src)))) || (cmpB .neq (ea.args.length) (eb.args.length))) = false ↔ ea.v.v = eb.v.v ∧ ea.src = eb.src ∧ ea.args.length = eb.args.length := by
  simp only [cmpB, Bool.or_eq_false_iff, bne_eq_false_iff_eq, Bool.not_eq_false', decide_eq_true_eq, and_assoc, Int.ofNat_inj]
theorem ln_ok {ea eb : EA} (h : (((!(decide (ea.v.v = eb.v.v))) || (!(decide (ea.src = eb.src)))) || (cmpB .neq (ea.args.length) (eb.args.length))) = false) : ea.v.v = eb.v.v ∧ ea.src = eb.src ∧ ea.args.length = eb.args.length := ln_iff.1 h
theorem ln_no {ea eb : EA} (h : (((!(decide (ea.v.v = eb.v.v))) || (!(decide (ea.src = eb.src)))) || (cmpB .neq (ea.args.length) (eb.args.length))) = true) : decide (ea.ev = eb.ev) = false := decide_eq_false fun e => by
  obtain ⟨_, _, _, _, _, _, e7, e8, e9, _⟩ := event_eq.1 e
  have e8' : ea.args.map VA.v = eb.args.map VA.v := e8
  have := congrArg List.length e8'
  rw [List.length_map, List.length_map] at this
  rw [ln_iff.2 ⟨e7, e9, this⟩] at h
  exact absurd h (by decide)
theorem arg_no {ea eb : EA} {i : Nat} {va vb : VA} (h1 : ea.args[i]? = some va) (h2 : eb.args[i]? = some vb) (h : ¬ va.v = vb.v) : decide (ea.ev = eb.ev) = false := decide_eq_false fun e => h (by
  obtain ⟨_, _, _, _, _, _, _, e8, _, _⟩ := event_eq.1 e
  have e8' : ea.args.map VA.v = eb.args.map VA.v := e8
  have := congrArg (fun l => l[i]?) e8'
  simp only [List.getElem?_map, h1, h2, Option.map_some] at this
  injection this)
theorem arg_step {ea eb : EA} {i : Nat} {va vb : VA} (h1 : ea.args[i]? = some va) (h2 : eb.args[i]? = some vb) (hq : (ea.args.take i).map VA.v = (eb.args.take i).map VA.v) (h : va.v = vb.v) : (ea.args.take (i + 1)).map VA.v = (eb.args.take (i + 1)).map VA.v := by
  rw [List.take_add_one, List.take_add_one, h1, h2, List.map_append, List.map_append, hq]
  simp [h]
theorem all_eq {ea eb : EA} (hd : HdEq ea eb) (hv : ea.v.v = eb.v.v) (hs : ea.src = eb.src) (ha : ea.args.map VA.v = eb.args.map VA.v) : decide (ea.ev = eb.ev) = true := decide_eq_true (event_eq.2 ⟨hd.1, hd.2.1, hd.2.2.1, hd.2.2.2.1, hd.2.2.2.2.1, hd.2.2.2.2.2.1, hv, ha, hs, hd.2.2.2.2.2.2⟩)

set_option maxRecDepth 100000 in
set_option maxHeartbeats 4000000 in
theorem ev_sameE {w0 : World} {R : List Seg} {G H : List Seg} (ea eb : EA) (w : World) (hV : ea.Ok w0 G) (hG : G ⊆ R) (hW : eb.Ok w0 H) (hH : H ⊆ R) (hA : Hp w0 R w) : Calls Tryz.prog 22 #[.agg ea.cells.toArray, .agg eb.cells.toArray] w fun e w' => e = .returned (.bool (decide (ea.ev = eb.ev))) ∧ Hp w0 R w' := by
  have he32 : ea.eff.length = 32 := hV.i.2.2.2.2.2
  have hb32 : eb.eff.length = 32 := hW.i.2.2.2.2.2
  have hn := hV.n
  have hm := hW.n
  have hsn := hV.sn
  refine vc_enter Tryz.func22 rfl Tryz.ntmps22 (Nat.le_of_ble_eq_true rfl) (fun a hF => ?_)
  apply wp_seq_k; intro K1 hK1
  refine wp_region_lit ?_
  refine vc_op rfl (fun K hK => hs_box (cs := ea.cells) hF rfl (by decide) rfl hA rfl (fun b1 w2 a hb1 hF hA3 => hK _ _ ?_))
  clear hK K
  replace hA3 : Hp w0 ([row b1 31 ([.int .i64 ea.op, .int .i64 ea.num, .int .i64 ea.clk, strV ea.typ, strV ea.cas, strV ea.nam, .int .i64 ea.v.v.k, .int .i64 ea.v.v.n, strV ea.v.v.t, .slice ea.v.sA ea.v.v.s.length ea.v.sC, .slice ea.aA ea.args.length ea.aC, .slice ea.bA ea.src.length ea.bC] ++ dc ea.eff)] :: R) w2 := hA3
  refine vc_op rfl (fun K hK => hs_box (cs := eb.cells) hF rfl (by decide) rfl hA3 rfl (fun b4 w5 a hb4 hF hA6 => hK _ _ ?_))
  clear hK K
  replace hA6 : Hp w0 ([row b4 31 ([.int .i64 eb.op, .int .i64 eb.num, .int .i64 eb.clk, strV eb.typ, strV eb.cas, strV eb.nam, .int .i64 eb.v.v.k, .int .i64 eb.v.v.n, strV eb.v.v.t, .slice eb.v.sA eb.v.v.s.length eb.v.sC, .slice eb.aA eb.args.length eb.aC, .slice eb.bA eb.src.length eb.bC] ++ dc eb.eff)] :: [row b1 31 ([.int .i64 ea.op, .int .i64 ea.num, .int .i64 ea.clk, strV ea.typ, strV ea.cas, strV ea.nam, .int .i64 ea.v.v.k, .int .i64 ea.v.v.n, strV ea.v.v.t, .slice ea.v.sA ea.v.v.s.length ea.v.sC, .slice ea.aA ea.args.length ea.aC, .slice ea.bA ea.src.length ea.bC] ++ dc ea.eff)] :: R) w5 := hA6
  refine vc_y hF rfl rfl (by decide) _ (y_assign rfl rfl) (fun a hF => ?_)
  refine vc_nil ?_
  refine hK1 _ _ ?_; clear  hK1 K1
  apply wp_seq_k; intro K2 hK2
  apply wp_seq_k; intro K3 hK3
  refine wp_region_lit ?_
  refine vc_y hF rfl rfl (by decide) _ (y_field rfl Tryz.underlying31 rfl sz3_v8 (by decide) rfl (rfl : (⟨_, 0 + _, none⟩ : Addr) = ⟨_, 0, none⟩)) (fun a hF => ?_)
  refine vc_y hF rfl rfl (by decide) _ (y_ld rfl hA6.q rfl 1 rfl rfl nr3_v8) (fun a hF => ?_)
  refine vc_y hF rfl rfl (by decide) _ (y_field rfl Tryz.underlying31 rfl sz3_v8 (by decide) rfl (rfl : (⟨_, 0 + _, none⟩ : Addr) = ⟨_, 0, none⟩)) (fun a hF => ?_)
  refine vc_y hF rfl rfl (by decide) _ (y_ld rfl hA6.q rfl 0 rfl rfl nr3_v8) (fun a hF => ?_)
  refine vc_y hF rfl rfl (by decide) _ (y_cmp rfl rfl rfl rfl rfl) (fun a hF => ?_)
  refine vc_y hF rfl rfl (by decide) _ (y_move rfl rfl) (fun a hF => ?_)
  refine vc_meet (l2 := ?lA1) hF [(17, .bool ((cmpB .neq (ea.op) (eb.op)) || (cmpB .neq (ea.num) (eb.num)))), (0, .agg (ea.cells).toArray), (1, .agg (eb.cells).toArray), (2, .pointer (some ⟨b1, 0, none⟩)), (3, .pointer (some ⟨b4, 0, none⟩)), (4, .bool false)] (fun hJ1 => ?elA1) (fun a hF => ?flA1)
  case elA1 =>
    rcases tf (cmpB .neq (ea.op) (eb.op)) with hg1 | hg1
    · refine vc_yg hF rfl rfl rfl rfl (some_bool hg1) (by decide) _ (y_field rfl Tryz.underlying31 rfl sz3_v8 (by decide) rfl (rfl : (⟨_, 0 + _, none⟩ : Addr) = ⟨_, 1, none⟩)) (fun a hF => ?_)
      refine vc_yg hF rfl rfl rfl rfl (some_bool hg1) (by decide) _ (y_ld rfl hA6.q rfl 1 rfl rfl nr3_v8) (fun a hF => ?_)
      refine vc_yg hF rfl rfl rfl rfl (some_bool hg1) (by decide) _ (y_field rfl Tryz.underlying31 rfl sz3_v8 (by decide) rfl (rfl : (⟨_, 0 + _, none⟩ : Addr) = ⟨_, 1, none⟩)) (fun a hF => ?_)
      refine vc_yg hF rfl rfl rfl rfl (some_bool hg1) (by decide) _ (y_ld rfl hA6.q rfl 0 rfl rfl nr3_v8) (fun a hF => ?_)
      refine vc_yg hF rfl rfl rfl rfl (some_bool hg1) (by decide) _ (y_cmp rfl rfl rfl rfl rfl) (fun a hF => ?_)
      refine vc_y hF rfl rfl (by decide) _ (y_pickF hg1 rfl rfl rfl) (fun a hF => ?_)
      exact hJ1 _ ((hF.keep [17, 0, 1, 2, 3, 4] (F' := [(17, _), (0, _), (1, _), (2, _), (3, _), (4, _)]) rfl).bool (by rw [hg1]; rfl))
    · refine vc_skip hF rfl rfl rfl rfl rfl (ne_want hg1) (by decide) (fun a hF => ?_)
      refine vc_skip hF rfl rfl rfl rfl rfl (ne_want hg1) (by decide) (fun a hF => ?_)
      refine vc_skip hF rfl rfl rfl rfl rfl (ne_want hg1) (by decide) (fun a hF => ?_)
      refine vc_skip hF rfl rfl rfl rfl rfl (ne_want hg1) (by decide) (fun a hF => ?_)
      refine vc_skip hF rfl rfl rfl rfl rfl (ne_want hg1) (by decide) (fun a hF => ?_)
      refine vc_y hF rfl rfl (by decide) _ (y_pickT hg1 rfl rfl rfl) (fun a hF => ?_)
      exact hJ1 _ ((hF.keep [17, 0, 1, 2, 3, 4] (F' := [(17, _), (0, _), (1, _), (2, _), (3, _), (4, _)]) rfl).bool (by rw [hg1]; rfl))
  refine vc_y hF rfl rfl (by decide) _ (y_move rfl rfl) (fun a hF => ?_)
  refine vc_meet (l2 := ?lA2) hF [(24, .bool (((cmpB .neq (ea.op) (eb.op)) || (cmpB .neq (ea.num) (eb.num))) || (cmpB .neq (ea.clk) (eb.clk)))), (0, .agg (ea.cells).toArray), (1, .agg (eb.cells).toArray), (2, .pointer (some ⟨b1, 0, none⟩)), (3, .pointer (some ⟨b4, 0, none⟩)), (4, .bool false)] (fun hJ2 => ?elA2) (fun a hF => ?flA2)
  case elA2 =>
    rcases tf ((cmpB .neq (ea.op) (eb.op)) || (cmpB .neq (ea.num) (eb.num))) with hg2 | hg2
    · refine vc_yg hF rfl rfl rfl rfl (some_bool hg2) (by decide) _ (y_field rfl Tryz.underlying31 rfl sz3_v8 (by decide) rfl (rfl : (⟨_, 0 + _, none⟩ : Addr) = ⟨_, 2, none⟩)) (fun a hF => ?_)
      refine vc_yg hF rfl rfl rfl rfl (some_bool hg2) (by decide) _ (y_ld rfl hA6.q rfl 1 rfl rfl nr3_v8) (fun a hF => ?_)
      refine vc_yg hF rfl rfl rfl rfl (some_bool hg2) (by decide) _ (y_field rfl Tryz.underlying31 rfl sz3_v8 (by decide) rfl (rfl : (⟨_, 0 + _, none⟩ : Addr) = ⟨_, 2, none⟩)) (fun a hF => ?_)
      refine vc_yg hF rfl rfl rfl rfl (some_bool hg2) (by decide) _ (y_ld rfl hA6.q rfl 0 rfl rfl nr3_v8) (fun a hF => ?_)
      refine vc_yg hF rfl rfl rfl rfl (some_bool hg2) (by decide) _ (y_cmp rfl rfl rfl rfl rfl) (fun a hF => ?_)
      refine vc_y hF rfl rfl (by decide) _ (y_pickF hg2 rfl rfl rfl) (fun a hF => ?_)
      exact hJ2 _ ((hF.keep [24, 0, 1, 2, 3, 4] (F' := [(24, _), (0, _), (1, _), (2, _), (3, _), (4, _)]) rfl).bool (by rw [hg2]; rfl))
    · refine vc_skip hF rfl rfl rfl rfl rfl (ne_want hg2) (by decide) (fun a hF => ?_)
      refine vc_skip hF rfl rfl rfl rfl rfl (ne_want hg2) (by decide) (fun a hF => ?_)
      refine vc_skip hF rfl rfl rfl rfl rfl (ne_want hg2) (by decide) (fun a hF => ?_)
      refine vc_skip hF rfl rfl rfl rfl rfl (ne_want hg2) (by decide) (fun a hF => ?_)
      refine vc_skip hF rfl rfl rfl rfl rfl (ne_want hg2) (by decide) (fun a hF => ?_)
      refine vc_y hF rfl rfl (by decide) _ (y_pickT hg2 rfl rfl rfl) (fun a hF => ?_)
      exact hJ2 _ ((hF.keep [24, 0, 1, 2, 3, 4] (F' := [(24, _), (0, _), (1, _), (2, _), (3, _), (4, _)]) rfl).bool (by rw [hg2]; rfl))
  refine vc_y hF rfl rfl (by decide) _ (y_move rfl rfl) (fun a hF => ?_)
  refine vc_meet (l2 := ?lA3) hF [(31, .bool ((((cmpB .neq (ea.op) (eb.op)) || (cmpB .neq (ea.num) (eb.num))) || (cmpB .neq (ea.clk) (eb.clk))) || (strB .neq ea.typ eb.typ))), (0, .agg (ea.cells).toArray), (1, .agg (eb.cells).toArray), (2, .pointer (some ⟨b1, 0, none⟩)), (3, .pointer (some ⟨b4, 0, none⟩)), (4, .bool false)] (fun hJ3 => ?elA3) (fun a hF => ?flA3)
  case elA3 =>
    rcases tf (((cmpB .neq (ea.op) (eb.op)) || (cmpB .neq (ea.num) (eb.num))) || (cmpB .neq (ea.clk) (eb.clk))) with hg3 | hg3
    · refine vc_yg hF rfl rfl rfl rfl (some_bool hg3) (by decide) _ (y_field rfl Tryz.underlying31 rfl sz9_v8 (by decide) rfl (rfl : (⟨_, 0 + _, none⟩ : Addr) = ⟨_, 3, none⟩)) (fun a hF => ?_)
      refine vc_yg hF rfl rfl rfl rfl (some_bool hg3) (by decide) _ (y_ld rfl hA6.q rfl 1 rfl rfl nr9_v8) (fun a hF => ?_)
      refine vc_yg hF rfl rfl rfl rfl (some_bool hg3) (by decide) _ (y_field rfl Tryz.underlying31 rfl sz9_v8 (by decide) rfl (rfl : (⟨_, 0 + _, none⟩ : Addr) = ⟨_, 3, none⟩)) (fun a hF => ?_)
      refine vc_yg hF rfl rfl rfl rfl (some_bool hg3) (by decide) _ (y_ld rfl hA6.q rfl 0 rfl rfl nr9_v8) (fun a hF => ?_)
      refine vc_yg hF rfl rfl rfl rfl (some_bool hg3) (by decide) _ (y_cmpS rfl rfl rfl rfl rfl) (fun a hF => ?_)
      refine vc_y hF rfl rfl (by decide) _ (y_pickF hg3 rfl rfl rfl) (fun a hF => ?_)
      exact hJ3 _ ((hF.keep [31, 0, 1, 2, 3, 4] (F' := [(31, _), (0, _), (1, _), (2, _), (3, _), (4, _)]) rfl).bool (by rw [hg3]; rfl))
    · refine vc_skip hF rfl rfl rfl rfl rfl (ne_want hg3) (by decide) (fun a hF => ?_)
      refine vc_skip hF rfl rfl rfl rfl rfl (ne_want hg3) (by decide) (fun a hF => ?_)
      refine vc_skip hF rfl rfl rfl rfl rfl (ne_want hg3) (by decide) (fun a hF => ?_)
      refine vc_skip hF rfl rfl rfl rfl rfl (ne_want hg3) (by decide) (fun a hF => ?_)
      refine vc_skip hF rfl rfl rfl rfl rfl (ne_want hg3) (by decide) (fun a hF => ?_)
      refine vc_y hF rfl rfl (by decide) _ (y_pickT hg3 rfl rfl rfl) (fun a hF => ?_)
      exact hJ3 _ ((hF.keep [31, 0, 1, 2, 3, 4] (F' := [(31, _), (0, _), (1, _), (2, _), (3, _), (4, _)]) rfl).bool (by rw [hg3]; rfl))
  refine vc_y hF rfl rfl (by decide) _ (y_move rfl rfl) (fun a hF => ?_)
  refine vc_meet (l2 := ?lA4) hF [(38, .bool (((((cmpB .neq (ea.op) (eb.op)) || (cmpB .neq (ea.num) (eb.num))) || (cmpB .neq (ea.clk) (eb.clk))) || (strB .neq ea.typ eb.typ)) || (strB .neq ea.cas eb.cas))), (0, .agg (ea.cells).toArray), (1, .agg (eb.cells).toArray), (2, .pointer (some ⟨b1, 0, none⟩)), (3, .pointer (some ⟨b4, 0, none⟩)), (4, .bool false)] (fun hJ4 => ?elA4) (fun a hF => ?flA4)
  case elA4 =>
    rcases tf ((((cmpB .neq (ea.op) (eb.op)) || (cmpB .neq (ea.num) (eb.num))) || (cmpB .neq (ea.clk) (eb.clk))) || (strB .neq ea.typ eb.typ)) with hg4 | hg4
    · refine vc_yg hF rfl rfl rfl rfl (some_bool hg4) (by decide) _ (y_field rfl Tryz.underlying31 rfl sz9_v8 (by decide) rfl (rfl : (⟨_, 0 + _, none⟩ : Addr) = ⟨_, 4, none⟩)) (fun a hF => ?_)
      refine vc_yg hF rfl rfl rfl rfl (some_bool hg4) (by decide) _ (y_ld rfl hA6.q rfl 1 rfl rfl nr9_v8) (fun a hF => ?_)
      refine vc_yg hF rfl rfl rfl rfl (some_bool hg4) (by decide) _ (y_field rfl Tryz.underlying31 rfl sz9_v8 (by decide) rfl (rfl : (⟨_, 0 + _, none⟩ : Addr) = ⟨_, 4, none⟩)) (fun a hF => ?_)
      refine vc_yg hF rfl rfl rfl rfl (some_bool hg4) (by decide) _ (y_ld rfl hA6.q rfl 0 rfl rfl nr9_v8) (fun a hF => ?_)
      refine vc_yg hF rfl rfl rfl rfl (some_bool hg4) (by decide) _ (y_cmpS rfl rfl rfl rfl rfl) (fun a hF => ?_)
      refine vc_y hF rfl rfl (by decide) _ (y_pickF hg4 rfl rfl rfl) (fun a hF => ?_)
      exact hJ4 _ ((hF.keep [38, 0, 1, 2, 3, 4] (F' := [(38, _), (0, _), (1, _), (2, _), (3, _), (4, _)]) rfl).bool (by rw [hg4]; rfl))
    · refine vc_skip hF rfl rfl rfl rfl rfl (ne_want hg4) (by decide) (fun a hF => ?_)
      refine vc_skip hF rfl rfl rfl rfl rfl (ne_want hg4) (by decide) (fun a hF => ?_)
      refine vc_skip hF rfl rfl rfl rfl rfl (ne_want hg4) (by decide) (fun a hF => ?_)
      refine vc_skip hF rfl rfl rfl rfl rfl (ne_want hg4) (by decide) (fun a hF => ?_)
      refine vc_skip hF rfl rfl rfl rfl rfl (ne_want hg4) (by decide) (fun a hF => ?_)
      refine vc_y hF rfl rfl (by decide) _ (y_pickT hg4 rfl rfl rfl) (fun a hF => ?_)
      exact hJ4 _ ((hF.keep [38, 0, 1, 2, 3, 4] (F' := [(38, _), (0, _), (1, _), (2, _), (3, _), (4, _)]) rfl).bool (by rw [hg4]; rfl))
  refine vc_y hF rfl rfl (by decide) _ (y_move rfl rfl) (fun a hF => ?_)
  refine vc_meet (l2 := ?lA5) hF [(45, .bool ((((((cmpB .neq (ea.op) (eb.op)) || (cmpB .neq (ea.num) (eb.num))) || (cmpB .neq (ea.clk) (eb.clk))) || (strB .neq ea.typ eb.typ)) || (strB .neq ea.cas eb.cas)) || (strB .neq ea.nam eb.nam))), (0, .agg (ea.cells).toArray), (1, .agg (eb.cells).toArray), (2, .pointer (some ⟨b1, 0, none⟩)), (3, .pointer (some ⟨b4, 0, none⟩)), (4, .bool false)] (fun hJ5 => ?elA5) (fun a hF => ?flA5)
  case elA5 =>
    rcases tf (((((cmpB .neq (ea.op) (eb.op)) || (cmpB .neq (ea.num) (eb.num))) || (cmpB .neq (ea.clk) (eb.clk))) || (strB .neq ea.typ eb.typ)) || (strB .neq ea.cas eb.cas)) with hg5 | hg5
    · refine vc_yg hF rfl rfl rfl rfl (some_bool hg5) (by decide) _ (y_field rfl Tryz.underlying31 rfl sz9_v8 (by decide) rfl (rfl : (⟨_, 0 + _, none⟩ : Addr) = ⟨_, 5, none⟩)) (fun a hF => ?_)
      refine vc_yg hF rfl rfl rfl rfl (some_bool hg5) (by decide) _ (y_ld rfl hA6.q rfl 1 rfl rfl nr9_v8) (fun a hF => ?_)
      refine vc_yg hF rfl rfl rfl rfl (some_bool hg5) (by decide) _ (y_field rfl Tryz.underlying31 rfl sz9_v8 (by decide) rfl (rfl : (⟨_, 0 + _, none⟩ : Addr) = ⟨_, 5, none⟩)) (fun a hF => ?_)
      refine vc_yg hF rfl rfl rfl rfl (some_bool hg5) (by decide) _ (y_ld rfl hA6.q rfl 0 rfl rfl nr9_v8) (fun a hF => ?_)
      refine vc_yg hF rfl rfl rfl rfl (some_bool hg5) (by decide) _ (y_cmpS rfl rfl rfl rfl rfl) (fun a hF => ?_)
      refine vc_y hF rfl rfl (by decide) _ (y_pickF hg5 rfl rfl rfl) (fun a hF => ?_)
      exact hJ5 _ ((hF.keep [45, 0, 1, 2, 3, 4] (F' := [(45, _), (0, _), (1, _), (2, _), (3, _), (4, _)]) rfl).bool (by rw [hg5]; rfl))
    · refine vc_skip hF rfl rfl rfl rfl rfl (ne_want hg5) (by decide) (fun a hF => ?_)
      refine vc_skip hF rfl rfl rfl rfl rfl (ne_want hg5) (by decide) (fun a hF => ?_)
      refine vc_skip hF rfl rfl rfl rfl rfl (ne_want hg5) (by decide) (fun a hF => ?_)
      refine vc_skip hF rfl rfl rfl rfl rfl (ne_want hg5) (by decide) (fun a hF => ?_)
      refine vc_skip hF rfl rfl rfl rfl rfl (ne_want hg5) (by decide) (fun a hF => ?_)
      refine vc_y hF rfl rfl (by decide) _ (y_pickT hg5 rfl rfl rfl) (fun a hF => ?_)
      exact hJ5 _ ((hF.keep [45, 0, 1, 2, 3, 4] (F' := [(45, _), (0, _), (1, _), (2, _), (3, _), (4, _)]) rfl).bool (by rw [hg5]; rfl))
  refine vc_y hF rfl rfl (by decide) _ (y_move rfl rfl) (fun a hF => ?_)
  refine vc_meet (l2 := ?lA6) hF [(52, .bool (((((((cmpB .neq (ea.op) (eb.op)) || (cmpB .neq (ea.num) (eb.num))) || (cmpB .neq (ea.clk) (eb.clk))) || (strB .neq ea.typ eb.typ)) || (strB .neq ea.cas eb.cas)) || (strB .neq ea.nam eb.nam)) || (!(decide (ea.eff = eb.eff))))), (0, .agg (ea.cells).toArray), (1, .agg (eb.cells).toArray), (2, .pointer (some ⟨b1, 0, none⟩)), (3, .pointer (some ⟨b4, 0, none⟩)), (4, .bool false)] (fun hJ6 => ?elA6) (fun a hF => ?flA6)
  case elA6 =>
    rcases tf ((((((cmpB .neq (ea.op) (eb.op)) || (cmpB .neq (ea.num) (eb.num))) || (cmpB .neq (ea.clk) (eb.clk))) || (strB .neq ea.typ eb.typ)) || (strB .neq ea.cas eb.cas)) || (strB .neq ea.nam eb.nam)) with hg6 | hg6
    · refine vc_yg hF rfl rfl rfl rfl (some_bool hg6) (by decide) _ (y_field rfl Tryz.underlying31 rfl sz29_v8 (by decide) rfl (rfl : (⟨_, 0 + _, none⟩ : Addr) = ⟨_, 12, none⟩)) (fun a hF => ?_)
      refine vc_yg hF rfl rfl rfl rfl (some_bool hg6) (by decide) _ (y_ldRow (new := dc ea.eff) rfl hA6.q rfl 1 rfl rw29_v8 (by rw [List.length_append, dc_length, he32]; exact Nat.le_of_ble_eq_true rfl) (by show (dc ea.eff).take 32 = _; exact List.take_of_length_le (by rw [dc_length, he32]; exact Nat.le_refl _))) (fun a hF => ?_)
      refine vc_yg hF rfl rfl rfl rfl (some_bool hg6) (by decide) _ (y_field rfl Tryz.underlying31 rfl sz29_v8 (by decide) rfl (rfl : (⟨_, 0 + _, none⟩ : Addr) = ⟨_, 12, none⟩)) (fun a hF => ?_)
      refine vc_yg hF rfl rfl rfl rfl (some_bool hg6) (by decide) _ (y_ldRow (new := dc eb.eff) rfl hA6.q rfl 0 rfl rw29_v8 (by rw [List.length_append, dc_length, hb32]; exact Nat.le_of_ble_eq_true rfl) (by show (dc eb.eff).take 32 = _; exact List.take_of_length_le (by rw [dc_length, hb32]; exact Nat.le_refl _))) (fun a hF => ?_)
      refine vc_yg hF rfl rfl rfl rfl (some_bool hg6) (by decide) _ (y_neB (X := ea.eff) (Y := eb.eff) rfl Tryz.underlying29 Tryz.underlying5 sz5_v8 (by kernel_rfl) rfl rfl he32 hb32 rfl) (fun a hF => ?_)
      refine vc_y hF rfl rfl (by decide) _ (y_pickF hg6 rfl rfl rfl) (fun a hF => ?_)
      exact hJ6 _ ((hF.keep [52, 0, 1, 2, 3, 4] (F' := [(52, _), (0, _), (1, _), (2, _), (3, _), (4, _)]) rfl).bool (by rw [hg6]; rfl))
    · refine vc_skip hF rfl rfl rfl rfl rfl (ne_want hg6) (by decide) (fun a hF => ?_)
      refine vc_skip hF rfl rfl rfl rfl rfl (ne_want hg6) (by decide) (fun a hF => ?_)
      refine vc_skip hF rfl rfl rfl rfl rfl (ne_want hg6) (by decide) (fun a hF => ?_)
      refine vc_skip hF rfl rfl rfl rfl rfl (ne_want hg6) (by decide) (fun a hF => ?_)
      refine vc_skip hF rfl rfl rfl rfl rfl (ne_want hg6) (by decide) (fun a hF => ?_)
      refine vc_y hF rfl rfl (by decide) _ (y_pickT hg6 rfl rfl rfl) (fun a hF => ?_)
      exact hJ6 _ ((hF.keep [52, 0, 1, 2, 3, 4] (F' := [(52, _), (0, _), (1, _), (2, _), (3, _), (4, _)]) rfl).bool (by rw [hg6]; rfl))
  refine vc_nil ?_
  refine hK3 _ _ ?_; clear  hK3 K3
  rcases tf (((((((cmpB .neq (ea.op) (eb.op)) || (cmpB .neq (ea.num) (eb.num))) || (cmpB .neq (ea.clk) (eb.clk))) || (strB .neq ea.typ eb.typ)) || (strB .neq ea.cas eb.cas)) || (strB .neq ea.nam eb.nam)) || (!(decide (ea.eff = eb.eff)))) with h1 | h1
  · refine vc_falseB hF rfl h1 ?_
    have hd := hd_ok h1
    apply wp_skip
    refine hK2 _ _ ?_; clear  hK2 K2
    apply wp_seq_k; intro K4 hK4
    apply wp_seq_k; intro K5 hK5
    refine wp_region_lit ?_
    refine vc_y hF rfl rfl (by decide) _ (y_field rfl Tryz.underlying31 rfl sz25_v8 (by decide) rfl (rfl : (⟨_, 0 + _, none⟩ : Addr) = ⟨_, 6, none⟩)) (fun a hF => ?_)
    refine vc_y hF rfl rfl (by decide) _ (y_ldRow (new := [.int .i64 ea.v.v.k, .int .i64 ea.v.v.n, strV ea.v.v.t, .slice ea.v.sA ea.v.v.s.length ea.v.sC]) rfl hA6.q rfl 1 rfl rw25_v8 (by rw [List.length_append]; exact Nat.le_add_right_of_le (Nat.le_of_ble_eq_true rfl)) rfl) (fun a hF => ?_)
    refine vc_y hF rfl rfl (by decide) _ (y_field rfl Tryz.underlying31 rfl sz25_v8 (by decide) rfl (rfl : (⟨_, 0 + _, none⟩ : Addr) = ⟨_, 6, none⟩)) (fun a hF => ?_)
    refine vc_y hF rfl rfl (by decide) _ (y_ldRow (new := [.int .i64 eb.v.v.k, .int .i64 eb.v.v.n, strV eb.v.v.t, .slice eb.v.sA eb.v.v.s.length eb.v.sC]) rfl hA6.q rfl 0 rfl rw25_v8 (by rw [List.length_append]; exact Nat.le_add_right_of_le (Nat.le_of_ble_eq_true rfl)) rfl) (fun a hF => ?_)
    refine vc_op rfl (fun K hK => ws_call hF rfl (by decide) cl25_v8 rfl rfl ?_)
    with_reducible refine (ev_sameV ea.v eb.v _ hV.v (List.Subset.trans hG (subC (subC (sub0)))) hW.v (List.Subset.trans hH (subC (subC (sub0)))) hA6 ).mono ?_
    rintro e' w7 ⟨rfl, hA8⟩
    refine ⟨_, rfl, fun a hF => hK _ _ ?_⟩
    clear hK K
    replace hA8 : Hp w0 ([row b4 31 ([.int .i64 eb.op, .int .i64 eb.num, .int .i64 eb.clk, strV eb.typ, strV eb.cas, strV eb.nam, .int .i64 eb.v.v.k, .int .i64 eb.v.v.n, strV eb.v.v.t, .slice eb.v.sA eb.v.v.s.length eb.v.sC, .slice eb.aA eb.args.length eb.aC, .slice eb.bA eb.src.length eb.bC] ++ dc eb.eff)] :: [row b1 31 ([.int .i64 ea.op, .int .i64 ea.num, .int .i64 ea.clk, strV ea.typ, strV ea.cas, strV ea.nam, .int .i64 ea.v.v.k, .int .i64 ea.v.v.n, strV ea.v.v.t, .slice ea.v.sA ea.v.v.s.length ea.v.sC, .slice ea.aA ea.args.length ea.aC, .slice ea.bA ea.src.length ea.bC] ++ dc ea.eff)] :: R) w7 := hA8
    refine vc_y hF rfl rfl (by decide) _ (y_not rfl rfl rfl) (fun a hF => ?_)
    refine vc_y hF rfl rfl (by decide) _ (y_move rfl rfl) (fun a hF => ?_)
    refine vc_meetW (l2 := ?lA7) hF (fun x => Hp w0 ([row b4 31 ([.int .i64 eb.op, .int .i64 eb.num, .int .i64 eb.clk, strV eb.typ, strV eb.cas, strV eb.nam, .int .i64 eb.v.v.k, .int .i64 eb.v.v.n, strV eb.v.v.t, .slice eb.v.sA eb.v.v.s.length eb.v.sC, .slice eb.aA eb.args.length eb.aC, .slice eb.bA eb.src.length eb.bC] ++ dc eb.eff)] :: [row b1 31 ([.int .i64 ea.op, .int .i64 ea.num, .int .i64 ea.clk, strV ea.typ, strV ea.cas, strV ea.nam, .int .i64 ea.v.v.k, .int .i64 ea.v.v.n, strV ea.v.v.t, .slice ea.v.sA ea.v.v.s.length ea.v.sC, .slice ea.aA ea.args.length ea.aC, .slice ea.bA ea.src.length ea.bC] ++ dc ea.eff)] :: R) x) [(66, .bool ((!(decide (ea.v.v = eb.v.v))) || (!(decide (ea.src = eb.src))))), (0, .agg (ea.cells).toArray), (1, .agg (eb.cells).toArray), (2, .pointer (some ⟨b1, 0, none⟩)), (3, .pointer (some ⟨b4, 0, none⟩)), (4, .bool false), (52, .bool (((((((cmpB .neq (ea.op) (eb.op)) || (cmpB .neq (ea.num) (eb.num))) || (cmpB .neq (ea.clk) (eb.clk))) || (strB .neq ea.typ eb.typ)) || (strB .neq ea.cas eb.cas)) || (strB .neq ea.nam eb.nam)) || (!(decide (ea.eff = eb.eff)))))] (fun hJ7 => ?elA7) (fun a w9 hF hA10 => ?flA7)
    case elA7 =>
      rcases tf (!(decide (ea.v.v = eb.v.v))) with hg7 | hg7
      · refine vc_yg hF rfl rfl rfl rfl (some_bool hg7) (by decide) _ (y_field rfl Tryz.underlying31 rfl sz27_v8 (by decide) rfl (rfl : (⟨_, 0 + _, none⟩ : Addr) = ⟨_, 11, none⟩)) (fun a hF => ?_)
        refine vc_yg hF rfl rfl rfl rfl (some_bool hg7) (by decide) _ (y_ld rfl hA8.q rfl 1 rfl rfl nr27_v8) (fun a hF => ?_)
        refine vc_yg hF rfl rfl rfl rfl (some_bool hg7) (by decide) _ (y_field rfl Tryz.underlying31 rfl sz27_v8 (by decide) rfl (rfl : (⟨_, 0 + _, none⟩ : Addr) = ⟨_, 11, none⟩)) (fun a hF => ?_)
        refine vc_yg hF rfl rfl rfl rfl (some_bool hg7) (by decide) _ (y_ld rfl hA8.q rfl 0 rfl rfl nr27_v8) (fun a hF => ?_)
        refine vc_opg hF rfl rfl rfl (some_bool hg7) (fun K hK => ws_call hF rfl (by decide) cl23_v8 rfl rfl ?_)
        with_reducible refine (ev_sameB _ (hV.src.mono (List.Subset.trans hG (subC (subC (sub0))))) (hW.src.mono (List.Subset.trans hH (subC (subC (sub0))))) hsn hA8 ).mono ?_
        rintro e' w11 ⟨rfl, hA12⟩
        refine ⟨_, rfl, fun a hF => hK _ _ ?_⟩
        clear hK K
        replace hA12 : Hp w0 ([row b4 31 ([.int .i64 eb.op, .int .i64 eb.num, .int .i64 eb.clk, strV eb.typ, strV eb.cas, strV eb.nam, .int .i64 eb.v.v.k, .int .i64 eb.v.v.n, strV eb.v.v.t, .slice eb.v.sA eb.v.v.s.length eb.v.sC, .slice eb.aA eb.args.length eb.aC, .slice eb.bA eb.src.length eb.bC] ++ dc eb.eff)] :: [row b1 31 ([.int .i64 ea.op, .int .i64 ea.num, .int .i64 ea.clk, strV ea.typ, strV ea.cas, strV ea.nam, .int .i64 ea.v.v.k, .int .i64 ea.v.v.n, strV ea.v.v.t, .slice ea.v.sA ea.v.v.s.length ea.v.sC, .slice ea.aA ea.args.length ea.aC, .slice ea.bA ea.src.length ea.bC] ++ dc ea.eff)] :: R) w11 := hA12
        refine vc_yg hF rfl rfl rfl rfl (some_bool hg7) (by decide) _ (y_not rfl rfl rfl) (fun a hF => ?_)
        refine vc_y hF rfl rfl (by decide) _ (y_pickF hg7 rfl rfl rfl) (fun a hF => ?_)
        exact hJ7 _ _ ((hF.keep [66, 0, 1, 2, 3, 4, 52] (F' := [(66, _), (0, _), (1, _), (2, _), (3, _), (4, _), (52, _)]) rfl).bool (by rw [hg7]; rfl)) hA12
      · refine vc_skip hF rfl rfl rfl rfl rfl (ne_want hg7) (by decide) (fun a hF => ?_)
        refine vc_skip hF rfl rfl rfl rfl rfl (ne_want hg7) (by decide) (fun a hF => ?_)
        refine vc_skip hF rfl rfl rfl rfl rfl (ne_want hg7) (by decide) (fun a hF => ?_)
        refine vc_skip hF rfl rfl rfl rfl rfl (ne_want hg7) (by decide) (fun a hF => ?_)
        refine vc_skip hF rfl rfl rfl rfl rfl (ne_want hg7) (by decide) (fun a hF => ?_)
        refine vc_skip hF rfl rfl rfl rfl rfl (ne_want hg7) (by decide) (fun a hF => ?_)
        refine vc_y hF rfl rfl (by decide) _ (y_pickT hg7 rfl rfl rfl) (fun a hF => ?_)
        exact hJ7 _ _ ((hF.keep [66, 0, 1, 2, 3, 4, 52] (F' := [(66, _), (0, _), (1, _), (2, _), (3, _), (4, _), (52, _)]) rfl).bool (by rw [hg7]; rfl)) hA8
    replace hA10 : Hp w0 ([row b4 31 ([.int .i64 eb.op, .int .i64 eb.num, .int .i64 eb.clk, strV eb.typ, strV eb.cas, strV eb.nam, .int .i64 eb.v.v.k, .int .i64 eb.v.v.n, strV eb.v.v.t, .slice eb.v.sA eb.v.v.s.length eb.v.sC, .slice eb.aA eb.args.length eb.aC, .slice eb.bA eb.src.length eb.bC] ++ dc eb.eff)] :: [row b1 31 ([.int .i64 ea.op, .int .i64 ea.num, .int .i64 ea.clk, strV ea.typ, strV ea.cas, strV ea.nam, .int .i64 ea.v.v.k, .int .i64 ea.v.v.n, strV ea.v.v.t, .slice ea.v.sA ea.v.v.s.length ea.v.sC, .slice ea.aA ea.args.length ea.aC, .slice ea.bA ea.src.length ea.bC] ++ dc ea.eff)] :: R) w9 := hA10
    refine vc_y hF rfl rfl (by decide) _ (y_move rfl rfl) (fun a hF => ?_)
    refine vc_meet (l2 := ?lA8) hF [(75, .bool (((!(decide (ea.v.v = eb.v.v))) || (!(decide (ea.src = eb.src)))) || (cmpB .neq (ea.args.length) (eb.args.length)))), (0, .agg (ea.cells).toArray), (1, .agg (eb.cells).toArray), (2, .pointer (some ⟨b1, 0, none⟩)), (3, .pointer (some ⟨b4, 0, none⟩)), (4, .bool false), (52, .bool (((((((cmpB .neq (ea.op) (eb.op)) || (cmpB .neq (ea.num) (eb.num))) || (cmpB .neq (ea.clk) (eb.clk))) || (strB .neq ea.typ eb.typ)) || (strB .neq ea.cas eb.cas)) || (strB .neq ea.nam eb.nam)) || (!(decide (ea.eff = eb.eff)))))] (fun hJ8 => ?elA8) (fun a hF => ?flA8)
    case elA8 =>
      rcases tf ((!(decide (ea.v.v = eb.v.v))) || (!(decide (ea.src = eb.src)))) with hg8 | hg8
      · refine vc_yg hF rfl rfl rfl rfl (some_bool hg8) (by decide) _ (y_field rfl Tryz.underlying31 rfl sz26_v8 (by decide) rfl (rfl : (⟨_, 0 + _, none⟩ : Addr) = ⟨_, 10, none⟩)) (fun a hF => ?_)
        refine vc_yg hF rfl rfl rfl rfl (some_bool hg8) (by decide) _ (y_ld rfl hA10.q rfl 1 rfl rfl nr26_v8) (fun a hF => ?_)
        refine vc_yg hF rfl rfl rfl rfl (some_bool hg8) (by decide) _ (y_lenSl rfl Tryz.underlying26 rfl rfl) (fun a hF => ?_)
        refine vc_yg hF rfl rfl rfl rfl (some_bool hg8) (by decide) _ (y_field rfl Tryz.underlying31 rfl sz26_v8 (by decide) rfl (rfl : (⟨_, 0 + _, none⟩ : Addr) = ⟨_, 10, none⟩)) (fun a hF => ?_)
        refine vc_yg hF rfl rfl rfl rfl (some_bool hg8) (by decide) _ (y_ld rfl hA10.q rfl 0 rfl rfl nr26_v8) (fun a hF => ?_)
        refine vc_yg hF rfl rfl rfl rfl (some_bool hg8) (by decide) _ (y_lenSl rfl Tryz.underlying26 rfl rfl) (fun a hF => ?_)
        refine vc_yg hF rfl rfl rfl rfl (some_bool hg8) (by decide) _ (y_cmp rfl rfl rfl rfl rfl) (fun a hF => ?_)
        refine vc_y hF rfl rfl (by decide) _ (y_pickF hg8 rfl rfl rfl) (fun a hF => ?_)
        exact hJ8 _ ((hF.keep [75, 0, 1, 2, 3, 4, 52] (F' := [(75, _), (0, _), (1, _), (2, _), (3, _), (4, _), (52, _)]) rfl).bool (by rw [hg8]; rfl))
      · refine vc_skip hF rfl rfl rfl rfl rfl (ne_want hg8) (by decide) (fun a hF => ?_)
        refine vc_skip hF rfl rfl rfl rfl rfl (ne_want hg8) (by decide) (fun a hF => ?_)
        refine vc_skip hF rfl rfl rfl rfl rfl (ne_want hg8) (by decide) (fun a hF => ?_)
        refine vc_skip hF rfl rfl rfl rfl rfl (ne_want hg8) (by decide) (fun a hF => ?_)
        refine vc_skip hF rfl rfl rfl rfl rfl (ne_want hg8) (by decide) (fun a hF => ?_)
        refine vc_skip hF rfl rfl rfl rfl rfl (ne_want hg8) (by decide) (fun a hF => ?_)
        refine vc_skip hF rfl rfl rfl rfl rfl (ne_want hg8) (by decide) (fun a hF => ?_)
        refine vc_y hF rfl rfl (by decide) _ (y_pickT hg8 rfl rfl rfl) (fun a hF => ?_)
        exact hJ8 _ ((hF.keep [75, 0, 1, 2, 3, 4, 52] (F' := [(75, _), (0, _), (1, _), (2, _), (3, _), (4, _), (52, _)]) rfl).bool (by rw [hg8]; rfl))
    refine vc_nil ?_
    refine hK5 _ _ ?_; clear  hK5 K5
    rcases tf (((!(decide (ea.v.v = eb.v.v))) || (!(decide (ea.src = eb.src)))) || (cmpB .neq (ea.args.length) (eb.args.length))) with h2 | h2
    · refine vc_falseB hF rfl h2 ?_
      have hl := ln_ok h2
      have hll : ea.args.length = eb.args.length := hl.2.2
      apply wp_skip
      refine hK4 _ _ ?_; clear  hK4 K4
      apply wp_seq_k; intro K6 hK6
      apply wp_seq_k; intro K7 hK7
      refine wp_region_lit ?_
      refine vc_y hF rfl rfl (by decide) _ (y_assign rfl rfl) (fun a hF => ?_)
      refine vc_nil ?_
      refine hK7 _ _ ?_; clear  hK7 K7
      apply wp_block
      refine vc_loop (G := Nat) (fun i a x => i ≤ ea.args.length ∧ ((ea.args.take i).map VA.v = (eb.args.take i).map VA.v) ∧ Fr 95 [(5, .int .i64 (i : Int)), (2, .pointer (some ⟨b1, 0, none⟩)), (3, .pointer (some ⟨b4, 0, none⟩))] a ∧ Hp w0 ([row b4 31 ([.int .i64 eb.op, .int .i64 eb.num, .int .i64 eb.clk, strV eb.typ, strV eb.cas, strV eb.nam, .int .i64 eb.v.v.k, .int .i64 eb.v.v.n, strV eb.v.v.t, .slice eb.v.sA eb.v.v.s.length eb.v.sC, .slice eb.aA eb.args.length eb.aC, .slice eb.bA eb.src.length eb.bC] ++ dc eb.eff)] :: [row b1 31 ([.int .i64 ea.op, .int .i64 ea.num, .int .i64 ea.clk, strV ea.typ, strV ea.cas, strV ea.nam, .int .i64 ea.v.v.k, .int .i64 ea.v.v.n, strV ea.v.v.t, .slice ea.v.sA ea.v.v.s.length ea.v.sC, .slice ea.aA ea.args.length ea.aC, .slice ea.bA ea.src.length ea.bC] ++ dc ea.eff)] :: R) x) (fun i => ea.args.length - i) 0 (⟨Nat.zero_le _, rfl, hF.keep [5, 2, 3] rfl, hA10⟩) ?_
      clear hF
      rintro i a w14 ⟨hi, hq, hF, hA13⟩
      apply wp_seq_k; intro K8 hK8
      apply wp_seq_k; intro K9 hK9
      refine wp_region_lit ?_
      refine vc_y hF rfl rfl (by decide) _ (y_move rfl rfl) (fun a hF => ?_)
      refine vc_y hF rfl rfl (by decide) _ (y_field rfl Tryz.underlying31 rfl sz26_v8 (by decide) rfl (rfl : (⟨_, 0 + _, none⟩ : Addr) = ⟨_, 10, none⟩)) (fun a hF => ?_)
      refine vc_y hF rfl rfl (by decide) _ (y_ld rfl hA13.q rfl 1 rfl rfl nr26_v8) (fun a hF => ?_)
      refine vc_y hF rfl rfl (by decide) _ (y_lenSl rfl Tryz.underlying26 rfl rfl) (fun a hF => ?_)
      refine vc_y hF rfl rfl (by decide) _ (y_cmp rfl rfl rfl rfl rfl) (fun a hF => ?_)
      refine vc_nil ?_
      refine hK9 _ _ ?_; clear  hK9 K9
      by_cases hlt : i < ea.args.length
      · refine vc_trueB hF rfl (lss_t (by omega)) ?_
        obtain ⟨va, hpea⟩ : ∃ q, ea.args[i]? = some q := ⟨_, List.getElem?_eq_getElem (by omega)⟩
        obtain ⟨hatea, hleea⟩ := Go.Dk.flat_at (z := 4) (Ws := ea.args.map VA.cells) (V := va.cells) (i := i) (fun V hV => by obtain ⟨u, _, rfl⟩ := List.mem_map.1 hV; rfl) (by rw [List.getElem?_map, hpea]; rfl)
        obtain ⟨ba, oa, hsea, hcea⟩ := hV.rc.ne (i := i * 4) (by have := argC_len ea.args; omega)
        rw [hsea] at hA13
        have hva := hV.args va (List.mem_of_getElem? hpea)
        obtain ⟨vb, hpeb⟩ : ∃ q, eb.args[i]? = some q := ⟨_, List.getElem?_eq_getElem (by omega)⟩
        obtain ⟨hateb, hleeb⟩ := Go.Dk.flat_at (z := 4) (Ws := eb.args.map VA.cells) (V := vb.cells) (i := i) (fun V hV => by obtain ⟨u, _, rfl⟩ := List.mem_map.1 hV; rfl) (by rw [List.getElem?_map, hpeb]; rfl)
        obtain ⟨bb, ob, hseb, hceb⟩ := hW.rc.ne (i := i * 4) (by have := argC_len eb.args; omega)
        rw [hseb] at hA13
        have hvb := hW.args vb (List.mem_of_getElem? hpeb)
        apply wp_skip
        refine hK8 _ _ ?_; clear  hK8 K8
        apply wp_seq_k; intro K10 hK10
        apply wp_block
        apply wp_seq_k; intro K11 hK11
        refine wp_region_plan 11 [10,11] [0,1,2,3,4,5,6,7,8,9,10,11] (fun x => Hq w0 ([row b4 31 ([.int .i64 eb.op, .int .i64 eb.num, .int .i64 eb.clk, strV eb.typ, strV eb.cas, strV eb.nam, .int .i64 eb.v.v.k, .int .i64 eb.v.v.n, strV eb.v.v.t, .slice eb.v.sA eb.v.v.s.length eb.v.sC, .slice (some ⟨bb, ob, none⟩) eb.args.length eb.aC, .slice eb.bA eb.src.length eb.bC] ++ dc eb.eff)] :: [row b1 31 ([.int .i64 ea.op, .int .i64 ea.num, .int .i64 ea.clk, strV ea.typ, strV ea.cas, strV ea.nam, .int .i64 ea.v.v.k, .int .i64 ea.v.v.n, strV ea.v.v.t, .slice ea.v.sA ea.v.v.s.length ea.v.sC, .slice (some ⟨ba, oa, none⟩) ea.args.length ea.aC, .slice ea.bA ea.src.length ea.bC] ++ dc ea.eff)] :: R) x) (by kernel_rfl) (by kernel_rfl) (Hq.drew (Hp.qp [[row b4 31 ([.int .i64 eb.op, .int .i64 eb.num, .int .i64 eb.clk, strV eb.typ, strV eb.cas, strV eb.nam, .int .i64 eb.v.v.k, .int .i64 eb.v.v.n, strV eb.v.v.t, .slice eb.v.sA eb.v.v.s.length eb.v.sC, .slice (some ⟨bb, ob, none⟩) eb.args.length eb.aC, .slice eb.bA eb.src.length eb.bC] ++ dc eb.eff)], [row b1 31 ([.int .i64 ea.op, .int .i64 ea.num, .int .i64 ea.clk, strV ea.typ, strV ea.cas, strV ea.nam, .int .i64 ea.v.v.k, .int .i64 ea.v.v.n, strV ea.v.v.t, .slice ea.v.sA ea.v.v.s.length ea.v.sC, .slice (some ⟨ba, oa, none⟩) ea.args.length ea.aC, .slice ea.bA ea.src.length ea.bC] ++ dc ea.eff)]] R [0, 1] hA13)) ?_
        have hA15 := Hl.drew hA13
        refine vp_y hF rfl rfl rfl rfl (by decide) _ (fun x hx => y_field rfl Tryz.underlying31 rfl sz26_v8 (by decide) rfl (rfl : (⟨_, 0 + _, none⟩ : Addr) = ⟨_, 10, none⟩)) (fun a hF => ?_)
        refine vp_y hF rfl rfl rfl rfl (by decide) _ (fun x hx => y_ld rfl hx rfl 1 rfl rfl nr26_v8) (fun a hF => ?_)
        refine vp_y hF rfl rfl rfl rfl (by decide) _ (fun x hx => y_move rfl rfl) (fun a hF => ?_)
        refine vp_y hF rfl rfl rfl rfl (by decide) _ (fun x hx => y_ixSl rfl Tryz.underlying26 sz25_v8 rfl rfl i rfl (by omega) rfl) (fun a hF => ?_)
        refine vp_y hF rfl rfl rfl rfl (by decide) _ (fun x hx => y_ldRowC (new := va.cells) rfl (Hq.sub hx (List.Subset.trans hG (subC (subC (sub0))))) rfl hcea (i * 4) hleea rfl hatea rw25_v8) (fun a hF => ?_)
        refine vp_y hF rfl rfl rfl rfl (by decide) _ (fun x hx => y_field rfl Tryz.underlying31 rfl sz26_v8 (by decide) rfl (rfl : (⟨_, 0 + _, none⟩ : Addr) = ⟨_, 10, none⟩)) (fun a hF => ?_)
        refine vp_y hF rfl rfl rfl rfl (by decide) _ (fun x hx => y_ld rfl hx rfl 0 rfl rfl nr26_v8) (fun a hF => ?_)
        refine vp_y hF rfl rfl rfl rfl (by decide) _ (fun x hx => y_move rfl rfl) (fun a hF => ?_)
        refine vp_y hF rfl rfl rfl rfl (by decide) _ (fun x hx => y_ixSl rfl Tryz.underlying26 sz25_v8 rfl rfl i rfl (by omega) rfl) (fun a hF => ?_)
        refine vp_y hF rfl rfl rfl rfl (by decide) _ (fun x hx => y_ldRowC (new := vb.cells) rfl (Hq.sub hx (List.Subset.trans hH (subC (subC (sub0))))) rfl hceb (i * 4) hleeb rfl hateb rw25_v8) (fun a hF => ?_)
        refine vp_l rfl rfl rfl (fun K hK => ws_call hF rfl (by decide) cl25_v8 rfl rfl ?_)
        with_reducible refine (ev_sameV va vb _ hva (List.Subset.trans hG (subC (subC (sub0)))) hvb (List.Subset.trans hH (subC (subC (sub0)))) hA15 ).mono ?_
        rintro e' w16 ⟨rfl, hA17⟩
        refine ⟨_, rfl, fun a hF => hK _ _ (fun _ => ?_) ?_⟩
        · exact Hp.qp [[row b4 31 ([.int .i64 eb.op, .int .i64 eb.num, .int .i64 eb.clk, strV eb.typ, strV eb.cas, strV eb.nam, .int .i64 eb.v.v.k, .int .i64 eb.v.v.n, strV eb.v.v.t, .slice eb.v.sA eb.v.v.s.length eb.v.sC, .slice (some ⟨bb, ob, none⟩) eb.args.length eb.aC, .slice eb.bA eb.src.length eb.bC] ++ dc eb.eff)], [row b1 31 ([.int .i64 ea.op, .int .i64 ea.num, .int .i64 ea.clk, strV ea.typ, strV ea.cas, strV ea.nam, .int .i64 ea.v.v.k, .int .i64 ea.v.v.n, strV ea.v.v.t, .slice ea.v.sA ea.v.v.s.length ea.v.sC, .slice (some ⟨ba, oa, none⟩) ea.args.length ea.aC, .slice ea.bA ea.src.length ea.bC] ++ dc ea.eff)]] R [0, 1] hA17
        clear hK K
        replace hA17 : Hp w0 ([row b4 31 ([.int .i64 eb.op, .int .i64 eb.num, .int .i64 eb.clk, strV eb.typ, strV eb.cas, strV eb.nam, .int .i64 eb.v.v.k, .int .i64 eb.v.v.n, strV eb.v.v.t, .slice eb.v.sA eb.v.v.s.length eb.v.sC, .slice (some ⟨bb, ob, none⟩) eb.args.length eb.aC, .slice eb.bA eb.src.length eb.bC] ++ dc eb.eff)] :: [row b1 31 ([.int .i64 ea.op, .int .i64 ea.num, .int .i64 ea.clk, strV ea.typ, strV ea.cas, strV ea.nam, .int .i64 ea.v.v.k, .int .i64 ea.v.v.n, strV ea.v.v.t, .slice ea.v.sA ea.v.v.s.length ea.v.sC, .slice (some ⟨ba, oa, none⟩) ea.args.length ea.aC, .slice ea.bA ea.src.length ea.bC] ++ dc ea.eff)] :: R) w16 := hA17
        refine vp_ly hF rfl rfl rfl rfl (by decide) _ (y_not rfl rfl rfl) (fun h => absurd h (by decide)) (fun a hF => ?_)
        refine plan_end ?_
        refine hK11 _ _ ?_; clear  hK11 K11
        rcases tf (decide (va.v = vb.v)) with h3 | h3
        · refine vc_trueB hF rfl (by rw [h3]; rfl) ?_
          apply wp_seq_k; intro K12 hK12
          refine wp_region_lit ?_
          refine vc_y hF rfl rfl (by decide) _ (y_assign rfl rfl) (fun a hF => ?_)
          refine vc_nil ?_
          refine hK12 _ _ ?_; clear  hK12 K12
          apply wp_ret
          simp only [Exit.then, Exit.inBlock]
          refine vc_ret1 hF Tryz.results22 rfl ?_
          have hA18 : Hp w0 (R) w16 := Hp.sel [[row b4 31 ([.int .i64 eb.op, .int .i64 eb.num, .int .i64 eb.clk, strV eb.typ, strV eb.cas, strV eb.nam, .int .i64 eb.v.v.k, .int .i64 eb.v.v.n, strV eb.v.v.t, .slice eb.v.sA eb.v.v.s.length eb.v.sC, .slice (some ⟨bb, ob, none⟩) eb.args.length eb.aC, .slice eb.bA eb.src.length eb.bC] ++ dc eb.eff)], [row b1 31 ([.int .i64 ea.op, .int .i64 ea.num, .int .i64 ea.clk, strV ea.typ, strV ea.cas, strV ea.nam, .int .i64 ea.v.v.k, .int .i64 ea.v.v.n, strV ea.v.v.t, .slice ea.v.sA ea.v.v.s.length ea.v.sC, .slice (some ⟨ba, oa, none⟩) ea.args.length ea.aC, .slice ea.bA ea.src.length ea.bC] ++ dc ea.eff)]] R [] [0, 1] hA17 rfl
          exact ⟨by rw [arg_no hpea hpeb (of_decide_eq_false h3)], hA18⟩
        · refine vc_falseB hF rfl (by rw [h3]; rfl) ?_
          apply wp_skip
          refine hK10 _ _ ?_; clear  hK10 K10
          refine wp_region_lit ?_
          refine vc_y hF rfl rfl (by decide) _ (y_move rfl rfl) (fun a hF => ?_)
          refine vc_y hF rfl rfl (by decide) _ (y_add rfl rfl rfl (IntWalk.i64_in _ (by omega))) (fun a hF => ?_)
          refine vc_y hF rfl rfl (by decide) _ (y_assign rfl rfl) (fun a hF => ?_)
          refine vc_nil ?_
          rw [← hseb, ← hsea] at hA17
          exact ⟨i + 1, by omega, by omega, arg_step hpea hpeb hq (of_decide_eq_true h3), hF.keep [5, 2, 3] rfl, hA17⟩
      · refine vc_falseB hF rfl (lss_f (by omega)) ?_
        obtain rfl : i = ea.args.length := by omega
        rw [List.take_length, hll, List.take_length] at hq
        apply wp_exit
        refine hK6 _ _ ?_; clear hK8 K8 hK6 K6
        apply wp_seq_k; intro K13 hK13
        refine wp_region_lit ?_
        refine vc_y hF rfl rfl (by decide) _ (y_assign rfl rfl) (fun a hF => ?_)
        refine vc_nil ?_
        refine hK13 _ _ ?_; clear  hK13 K13
        apply wp_ret
        refine vc_ret1 hF Tryz.results22 rfl ?_
        have hA19 : Hp w0 (R) w14 := Hp.sel [[row b4 31 ([.int .i64 eb.op, .int .i64 eb.num, .int .i64 eb.clk, strV eb.typ, strV eb.cas, strV eb.nam, .int .i64 eb.v.v.k, .int .i64 eb.v.v.n, strV eb.v.v.t, .slice eb.v.sA eb.v.v.s.length eb.v.sC, .slice eb.aA eb.args.length eb.aC, .slice eb.bA eb.src.length eb.bC] ++ dc eb.eff)], [row b1 31 ([.int .i64 ea.op, .int .i64 ea.num, .int .i64 ea.clk, strV ea.typ, strV ea.cas, strV ea.nam, .int .i64 ea.v.v.k, .int .i64 ea.v.v.n, strV ea.v.v.t, .slice ea.v.sA ea.v.v.s.length ea.v.sC, .slice ea.aA ea.args.length ea.aC, .slice ea.bA ea.src.length ea.bC] ++ dc ea.eff)]] R [] [0, 1] hA13 rfl
        exact ⟨by rw [all_eq hd hl.1 hl.2.1 hq], hA19⟩
    · refine vc_trueB hF rfl h2 ?_
      apply wp_seq_k; intro K14 hK14
      refine wp_region_lit ?_
      refine vc_y hF rfl rfl (by decide) _ (y_assign rfl rfl) (fun a hF => ?_)
      refine vc_nil ?_
      refine hK14 _ _ ?_; clear  hK14 K14
      apply wp_ret
      simp only [Exit.then]
      refine vc_ret1 hF Tryz.results22 rfl ?_
      have hA20 : Hp w0 (R) w9 := Hp.sel [[row b4 31 ([.int .i64 eb.op, .int .i64 eb.num, .int .i64 eb.clk, strV eb.typ, strV eb.cas, strV eb.nam, .int .i64 eb.v.v.k, .int .i64 eb.v.v.n, strV eb.v.v.t, .slice eb.v.sA eb.v.v.s.length eb.v.sC, .slice eb.aA eb.args.length eb.aC, .slice eb.bA eb.src.length eb.bC] ++ dc eb.eff)], [row b1 31 ([.int .i64 ea.op, .int .i64 ea.num, .int .i64 ea.clk, strV ea.typ, strV ea.cas, strV ea.nam, .int .i64 ea.v.v.k, .int .i64 ea.v.v.n, strV ea.v.v.t, .slice ea.v.sA ea.v.v.s.length ea.v.sC, .slice ea.aA ea.args.length ea.aC, .slice ea.bA ea.src.length ea.bC] ++ dc ea.eff)]] R [] [0, 1] hA10 rfl
      exact ⟨by rw [ln_no h2], hA20⟩
  · refine vc_trueB hF rfl h1 ?_
    apply wp_seq_k; intro K15 hK15
    refine wp_region_lit ?_
    refine vc_y hF rfl rfl (by decide) _ (y_assign rfl rfl) (fun a hF => ?_)
    refine vc_nil ?_
    refine hK15 _ _ ?_; clear  hK15 K15
    apply wp_ret
    simp only [Exit.then]
    refine vc_ret1 hF Tryz.results22 rfl ?_
    have hA21 : Hp w0 (R) w5 := Hp.sel [[row b4 31 ([.int .i64 eb.op, .int .i64 eb.num, .int .i64 eb.clk, strV eb.typ, strV eb.cas, strV eb.nam, .int .i64 eb.v.v.k, .int .i64 eb.v.v.n, strV eb.v.v.t, .slice eb.v.sA eb.v.v.s.length eb.v.sC, .slice eb.aA eb.args.length eb.aC, .slice eb.bA eb.src.length eb.bC] ++ dc eb.eff)], [row b1 31 ([.int .i64 ea.op, .int .i64 ea.num, .int .i64 ea.clk, strV ea.typ, strV ea.cas, strV ea.nam, .int .i64 ea.v.v.k, .int .i64 ea.v.v.n, strV ea.v.v.t, .slice ea.v.sA ea.v.v.s.length ea.v.sC, .slice ea.aA ea.args.length ea.aC, .slice ea.bA ea.src.length ea.bC] ++ dc ea.eff)]] R [] [0, 1] hA6 rfl
    exact ⟨by rw [hd_no h1], hA21⟩
end Go.Proofs.YtepbmdlgdaedpaaGreatDoor
