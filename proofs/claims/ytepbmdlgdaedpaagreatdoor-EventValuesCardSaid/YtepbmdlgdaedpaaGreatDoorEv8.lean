/- Values and events held against one another. -/
import Derived.Test.YtepbmdlgdaedpaaGreatDoorEv7
import Derived.Test.YtepbmdlgdaedpaaGreatDoorBk
namespace Go.Proofs.YtepbmdlgdaedpaaGreatDoor
open Go.RowKit Go.Dk

theorem nr3_v8 : notRow Tryz.prog 3 = true := by kernel_rfl
theorem nr9_v8 : notRow Tryz.prog 9 = true := by kernel_rfl
theorem nr22_v8 : notRow Tryz.prog 22 = true := by kernel_rfl
theorem nr23_v8 : notRow Tryz.prog 23 = true := by kernel_rfl
theorem sz3_v8 : (Tryz.prog.info? 3).map (·.size) = some 1 := by kernel_rfl
theorem sz9_v8 : (Tryz.prog.info? 9).map (·.size) = some 1 := by kernel_rfl
theorem sz22_v8 : (Tryz.prog.info? 22).map (·.size) = some 1 := by kernel_rfl
theorem sz23_v8 : (Tryz.prog.info? 23).map (·.size) = some 1 := by kernel_rfl
theorem cl86_v8 : CallsTo Tryz.prog 86 := ⟨_, Tryz.func86, by kernel_rfl, by kernel_rfl⟩
theorem cl92_v8 : CallsTo Tryz.prog 92 := ⟨_, Tryz.func92, by kernel_rfl, by kernel_rfl⟩

theorem val_eq {a b : Val} : a = b ↔ a.k = b.k ∧ a.n = b.n ∧ a.t = b.t ∧ a.s = b.s := by
  cases a; cases b
  simp
instance : DecidableEq Val := fun a b => decidable_of_iff _ (val_eq (a := a) (b := b)).symm
theorem same_val {va vb : VA} : ((((cmpB .eql (va.v.k) (vb.v.k)) && (cmpB .eql (va.v.n) (vb.v.n))) && (strB .eql va.v.t vb.v.t)) && ((decide (va.v.s = vb.v.s)))) = decide (va.v = vb.v) := by
  rw [Bool.eq_iff_iff]
  simp only [cmpB, strB, Bool.and_eq_true, decide_eq_true_eq, beq_iff_eq, val_eq, and_assoc]

set_option maxRecDepth 100000 in
set_option maxHeartbeats 4000000 in
theorem ev_sameV {w0 : World} {R : List Seg} {G H : List Seg} (va vb : VA) (w : World) (hV : va.Ok w0 G) (hG : G ⊆ R) (hW : vb.Ok w0 H) (hH : H ⊆ R) (hA : Hp w0 R w) : Calls Tryz.prog 25 #[.agg va.cells.toArray, .agg vb.cells.toArray] w fun e w' => e = .returned (.bool (decide (va.v = vb.v))) ∧ Hp w0 R w' := by
  have hn := hV.n
  have hm := hW.n
  refine vc_enter Tryz.func25 rfl Tryz.ntmps25 (Nat.le_of_ble_eq_true rfl) (fun a hF => ?_)
  apply wp_seq_k; intro K1 hK1
  refine wp_region_lit ?_
  refine vc_op rfl (fun K hK => hs_box (cs := [.int .i64 va.v.k, .int .i64 va.v.n, strV va.v.t, .slice va.sA va.v.s.length va.sC]) hF rfl (by decide) rfl hA rfl (fun b1 w2 a hb1 hF hA3 => hK _ _ ?_))
  clear hK K
  replace hA3 : Hp w0 ([row b1 25 [.int .i64 va.v.k, .int .i64 va.v.n, strV va.v.t, .slice va.sA va.v.s.length va.sC]] :: R) w2 := hA3
  refine vc_op rfl (fun K hK => hs_box (cs := [.int .i64 vb.v.k, .int .i64 vb.v.n, strV vb.v.t, .slice vb.sA vb.v.s.length vb.sC]) hF rfl (by decide) rfl hA3 rfl (fun b4 w5 a hb4 hF hA6 => hK _ _ ?_))
  clear hK K
  replace hA6 : Hp w0 ([row b4 25 [.int .i64 vb.v.k, .int .i64 vb.v.n, strV vb.v.t, .slice vb.sA vb.v.s.length vb.sC]] :: [row b1 25 [.int .i64 va.v.k, .int .i64 va.v.n, strV va.v.t, .slice va.sA va.v.s.length va.sC]] :: R) w5 := hA6
  refine vc_y hF rfl rfl (by decide) _ (y_assign rfl rfl) (fun a hF => ?_)
  refine vc_nil ?_
  refine hK1 _ _ ?_; clear  hK1 K1
  apply wp_seq_k; intro K2 hK2
  refine wp_region_lit ?_
  refine vc_y hF rfl rfl (by decide) _ (y_field rfl Tryz.underlying25 rfl sz22_v8 (by decide) rfl (rfl : (⟨_, 0 + _, none⟩ : Addr) = ⟨_, 0, none⟩)) (fun a hF => ?_)
  refine vc_y hF rfl rfl (by decide) _ (y_ld rfl hA6.q rfl 1 rfl rfl nr22_v8) (fun a hF => ?_)
  refine vc_y hF rfl rfl (by decide) _ (y_field rfl Tryz.underlying25 rfl sz22_v8 (by decide) rfl (rfl : (⟨_, 0 + _, none⟩ : Addr) = ⟨_, 0, none⟩)) (fun a hF => ?_)
  refine vc_y hF rfl rfl (by decide) _ (y_ld rfl hA6.q rfl 0 rfl rfl nr22_v8) (fun a hF => ?_)
  refine vc_y hF rfl rfl (by decide) _ (y_cmp rfl rfl rfl rfl rfl) (fun a hF => ?_)
  refine vc_y hF rfl rfl (by decide) _ (y_move rfl rfl) (fun a hF => ?_)
  refine vc_meet (l2 := ?lA1) hF [(16, .bool ((cmpB .eql (va.v.k) (vb.v.k)) && (cmpB .eql (va.v.n) (vb.v.n)))), (0, .agg ([.int .i64 va.v.k, .int .i64 va.v.n, strV va.v.t, .slice va.sA va.v.s.length va.sC]).toArray), (1, .agg ([.int .i64 vb.v.k, .int .i64 vb.v.n, strV vb.v.t, .slice vb.sA vb.v.s.length vb.sC]).toArray), (2, .pointer (some ⟨b1, 0, none⟩)), (3, .pointer (some ⟨b4, 0, none⟩)), (4, .bool false)] (fun hJ1 => ?elA1) (fun a hF => ?flA1)
  case elA1 =>
    rcases tf (cmpB .eql (va.v.k) (vb.v.k)) with hg1 | hg1
    · refine vc_skip hF rfl rfl rfl rfl rfl (ne_want hg1) (by decide) (fun a hF => ?_)
      refine vc_skip hF rfl rfl rfl rfl rfl (ne_want hg1) (by decide) (fun a hF => ?_)
      refine vc_skip hF rfl rfl rfl rfl rfl (ne_want hg1) (by decide) (fun a hF => ?_)
      refine vc_skip hF rfl rfl rfl rfl rfl (ne_want hg1) (by decide) (fun a hF => ?_)
      refine vc_skip hF rfl rfl rfl rfl rfl (ne_want hg1) (by decide) (fun a hF => ?_)
      refine vc_y hF rfl rfl (by decide) _ (y_pickF hg1 rfl rfl rfl) (fun a hF => ?_)
      exact hJ1 _ ((hF.keep [16, 0, 1, 2, 3, 4] (F' := [(16, _), (0, _), (1, _), (2, _), (3, _), (4, _)]) rfl).bool (by rw [hg1]; rfl))
    · refine vc_yg hF rfl rfl rfl rfl (some_bool hg1) (by decide) _ (y_field rfl Tryz.underlying25 rfl sz3_v8 (by decide) rfl (rfl : (⟨_, 0 + _, none⟩ : Addr) = ⟨_, 1, none⟩)) (fun a hF => ?_)
      refine vc_yg hF rfl rfl rfl rfl (some_bool hg1) (by decide) _ (y_ld rfl hA6.q rfl 1 rfl rfl nr3_v8) (fun a hF => ?_)
      refine vc_yg hF rfl rfl rfl rfl (some_bool hg1) (by decide) _ (y_field rfl Tryz.underlying25 rfl sz3_v8 (by decide) rfl (rfl : (⟨_, 0 + _, none⟩ : Addr) = ⟨_, 1, none⟩)) (fun a hF => ?_)
      refine vc_yg hF rfl rfl rfl rfl (some_bool hg1) (by decide) _ (y_ld rfl hA6.q rfl 0 rfl rfl nr3_v8) (fun a hF => ?_)
      refine vc_yg hF rfl rfl rfl rfl (some_bool hg1) (by decide) _ (y_cmp rfl rfl rfl rfl rfl) (fun a hF => ?_)
      refine vc_y hF rfl rfl (by decide) _ (y_pickT hg1 rfl rfl rfl) (fun a hF => ?_)
      exact hJ1 _ ((hF.keep [16, 0, 1, 2, 3, 4] (F' := [(16, _), (0, _), (1, _), (2, _), (3, _), (4, _)]) rfl).bool (by rw [hg1]; rfl))
  refine vc_y hF rfl rfl (by decide) _ (y_move rfl rfl) (fun a hF => ?_)
  refine vc_meet (l2 := ?lA2) hF [(23, .bool (((cmpB .eql (va.v.k) (vb.v.k)) && (cmpB .eql (va.v.n) (vb.v.n))) && (strB .eql va.v.t vb.v.t))), (0, .agg ([.int .i64 va.v.k, .int .i64 va.v.n, strV va.v.t, .slice va.sA va.v.s.length va.sC]).toArray), (1, .agg ([.int .i64 vb.v.k, .int .i64 vb.v.n, strV vb.v.t, .slice vb.sA vb.v.s.length vb.sC]).toArray), (2, .pointer (some ⟨b1, 0, none⟩)), (3, .pointer (some ⟨b4, 0, none⟩)), (4, .bool false)] (fun hJ2 => ?elA2) (fun a hF => ?flA2)
  case elA2 =>
    rcases tf ((cmpB .eql (va.v.k) (vb.v.k)) && (cmpB .eql (va.v.n) (vb.v.n))) with hg2 | hg2
    · refine vc_skip hF rfl rfl rfl rfl rfl (ne_want hg2) (by decide) (fun a hF => ?_)
      refine vc_skip hF rfl rfl rfl rfl rfl (ne_want hg2) (by decide) (fun a hF => ?_)
      refine vc_skip hF rfl rfl rfl rfl rfl (ne_want hg2) (by decide) (fun a hF => ?_)
      refine vc_skip hF rfl rfl rfl rfl rfl (ne_want hg2) (by decide) (fun a hF => ?_)
      refine vc_skip hF rfl rfl rfl rfl rfl (ne_want hg2) (by decide) (fun a hF => ?_)
      refine vc_y hF rfl rfl (by decide) _ (y_pickF hg2 rfl rfl rfl) (fun a hF => ?_)
      exact hJ2 _ ((hF.keep [23, 0, 1, 2, 3, 4] (F' := [(23, _), (0, _), (1, _), (2, _), (3, _), (4, _)]) rfl).bool (by rw [hg2]; rfl))
    · refine vc_yg hF rfl rfl rfl rfl (some_bool hg2) (by decide) _ (y_field rfl Tryz.underlying25 rfl sz9_v8 (by decide) rfl (rfl : (⟨_, 0 + _, none⟩ : Addr) = ⟨_, 2, none⟩)) (fun a hF => ?_)
      refine vc_yg hF rfl rfl rfl rfl (some_bool hg2) (by decide) _ (y_ld rfl hA6.q rfl 1 rfl rfl nr9_v8) (fun a hF => ?_)
      refine vc_yg hF rfl rfl rfl rfl (some_bool hg2) (by decide) _ (y_field rfl Tryz.underlying25 rfl sz9_v8 (by decide) rfl (rfl : (⟨_, 0 + _, none⟩ : Addr) = ⟨_, 2, none⟩)) (fun a hF => ?_)
      refine vc_yg hF rfl rfl rfl rfl (some_bool hg2) (by decide) _ (y_ld rfl hA6.q rfl 0 rfl rfl nr9_v8) (fun a hF => ?_)
      refine vc_yg hF rfl rfl rfl rfl (some_bool hg2) (by decide) _ (y_cmpS rfl rfl rfl rfl rfl) (fun a hF => ?_)
      refine vc_y hF rfl rfl (by decide) _ (y_pickT hg2 rfl rfl rfl) (fun a hF => ?_)
      exact hJ2 _ ((hF.keep [23, 0, 1, 2, 3, 4] (F' := [(23, _), (0, _), (1, _), (2, _), (3, _), (4, _)]) rfl).bool (by rw [hg2]; rfl))
  refine vc_y hF rfl rfl (by decide) _ (y_move rfl rfl) (fun a hF => ?_)
  refine vc_meetW (l2 := ?lA3) hF (fun x => Hp w0 ([row b4 25 [.int .i64 vb.v.k, .int .i64 vb.v.n, strV vb.v.t, .slice vb.sA vb.v.s.length vb.sC]] :: [row b1 25 [.int .i64 va.v.k, .int .i64 va.v.n, strV va.v.t, .slice va.sA va.v.s.length va.sC]] :: R) x) [(30, .bool ((((cmpB .eql (va.v.k) (vb.v.k)) && (cmpB .eql (va.v.n) (vb.v.n))) && (strB .eql va.v.t vb.v.t)) && ((decide (va.v.s = vb.v.s))))), (0, .agg ([.int .i64 va.v.k, .int .i64 va.v.n, strV va.v.t, .slice va.sA va.v.s.length va.sC]).toArray), (1, .agg ([.int .i64 vb.v.k, .int .i64 vb.v.n, strV vb.v.t, .slice vb.sA vb.v.s.length vb.sC]).toArray), (4, .bool false)] (fun hJ3 => ?elA3) (fun a w7 hF hA8 => ?flA3)
  case elA3 =>
    rcases tf (((cmpB .eql (va.v.k) (vb.v.k)) && (cmpB .eql (va.v.n) (vb.v.n))) && (strB .eql va.v.t vb.v.t)) with hg3 | hg3
    · refine vc_skip hF rfl rfl rfl rfl rfl (ne_want hg3) (by decide) (fun a hF => ?_)
      refine vc_skip hF rfl rfl rfl rfl rfl (ne_want hg3) (by decide) (fun a hF => ?_)
      refine vc_skip hF rfl rfl rfl rfl rfl (ne_want hg3) (by decide) (fun a hF => ?_)
      refine vc_skip hF rfl rfl rfl rfl rfl (ne_want hg3) (by decide) (fun a hF => ?_)
      refine vc_skip hF rfl rfl rfl rfl rfl (ne_want hg3) (by decide) (fun a hF => ?_)
      refine vc_y hF rfl rfl (by decide) _ (y_pickF hg3 rfl rfl rfl) (fun a hF => ?_)
      exact hJ3 _ _ ((hF.keep [30, 0, 1, 4] (F' := [(30, _), (0, _), (1, _), (4, _)]) rfl).bool (by rw [hg3]; rfl)) hA6
    · refine vc_yg hF rfl rfl rfl rfl (some_bool hg3) (by decide) _ (y_field rfl Tryz.underlying25 rfl sz23_v8 (by decide) rfl (rfl : (⟨_, 0 + _, none⟩ : Addr) = ⟨_, 3, none⟩)) (fun a hF => ?_)
      refine vc_yg hF rfl rfl rfl rfl (some_bool hg3) (by decide) _ (y_ld rfl hA6.q rfl 1 rfl rfl nr23_v8) (fun a hF => ?_)
      refine vc_yg hF rfl rfl rfl rfl (some_bool hg3) (by decide) _ (y_field rfl Tryz.underlying25 rfl sz23_v8 (by decide) rfl (rfl : (⟨_, 0 + _, none⟩ : Addr) = ⟨_, 3, none⟩)) (fun a hF => ?_)
      refine vc_yg hF rfl rfl rfl rfl (some_bool hg3) (by decide) _ (y_ld rfl hA6.q rfl 0 rfl rfl nr23_v8) (fun a hF => ?_)
      refine vc_opg hF rfl rfl rfl (some_bool hg3) (fun K hK => ws_call hF rfl (by decide) cl92_v8 rfl rfl ?_)
      with_reducible refine (bk_same_strings w0 _ ([row b4 25 [.int .i64 vb.v.k, .int .i64 vb.v.n, strV vb.v.t, .slice vb.sA vb.v.s.length vb.sC]] :: [row b1 25 [.int .i64 va.v.k, .int .i64 va.v.n, strV va.v.t, .slice va.sA va.v.s.length va.sC]] :: R) va.sA vb.sA va.v.s vb.v.s va.sC vb.sC (hV.rc.mono (List.Subset.trans hG (subC (subC (sub0))))) (hW.rc.mono (List.Subset.trans hH (subC (subC (sub0))))) hA6 hV.n ).mono ?_
      rintro e' w9 ⟨rfl, hA10⟩
      refine ⟨_, rfl, fun a hF => hK _ _ ?_⟩
      clear hK K
      replace hA10 : Hp w0 ([row b4 25 [.int .i64 vb.v.k, .int .i64 vb.v.n, strV vb.v.t, .slice vb.sA vb.v.s.length vb.sC]] :: [row b1 25 [.int .i64 va.v.k, .int .i64 va.v.n, strV va.v.t, .slice va.sA va.v.s.length va.sC]] :: R) w9 := hA10
      refine vc_y hF rfl rfl (by decide) _ (y_pickT hg3 rfl rfl rfl) (fun a hF => ?_)
      exact hJ3 _ _ ((hF.keep [30, 0, 1, 4] (F' := [(30, _), (0, _), (1, _), (4, _)]) rfl).bool (by rw [hg3]; rfl)) hA10
  replace hA8 : Hp w0 ([row b4 25 [.int .i64 vb.v.k, .int .i64 vb.v.n, strV vb.v.t, .slice vb.sA vb.v.s.length vb.sC]] :: [row b1 25 [.int .i64 va.v.k, .int .i64 va.v.n, strV va.v.t, .slice va.sA va.v.s.length va.sC]] :: R) w7 := hA8
  refine vc_y hF rfl rfl (by decide) _ (y_assign rfl rfl) (fun a hF => ?_)
  refine vc_nil ?_
  refine hK2 _ _ ?_; clear  hK2 K2
  apply wp_ret
  refine vc_ret1 hF Tryz.results25 rfl ?_
  have hA11 : Hp w0 (R) w7 := Hp.sel [[row b4 25 [.int .i64 vb.v.k, .int .i64 vb.v.n, strV vb.v.t, .slice vb.sA vb.v.s.length vb.sC]], [row b1 25 [.int .i64 va.v.k, .int .i64 va.v.n, strV va.v.t, .slice va.sA va.v.s.length va.sC]]] R [] [0, 1] hA8 rfl
  exact ⟨by rw [same_val], hA11⟩

set_option maxRecDepth 100000 in
set_option maxHeartbeats 4000000 in
theorem ev_sameB {w0 : World} {R : List Seg} {A1 A2 : Option Addr} {l1 l2 : List UInt8} {c1 c2 : Nat} (w : World) (hR1 : Rd w0 R A1 l1) (hR2 : Rd w0 R A2 l2) (hn : l1.length ≤ 9223372036854775807) (hA : Hp w0 R w) : Calls Tryz.prog 23 #[.slice A1 l1.length c1, .slice A2 l2.length c2] w fun e w' => e = .returned (.bool (decide (l1 = l2))) ∧ Hp w0 R w' := by
  refine vc_enter Tryz.func23 rfl Tryz.ntmps23 (Nat.le_of_ble_eq_true rfl) (fun a hF => ?_)
  apply wp_seq_k; intro K1 hK1
  refine wp_region_lit ?_
  refine vc_y hF rfl rfl (by decide) _ (y_assign rfl rfl) (fun a hF => ?_)
  refine vc_nil ?_
  refine hK1 _ _ ?_; clear  hK1 K1
  apply wp_seq_k; intro K2 hK2
  refine wp_region_lit ?_
  refine vc_y hF rfl rfl (by decide) _ (y_move rfl rfl) (fun a hF => ?_)
  refine vc_y hF rfl rfl (by decide) _ (y_move rfl rfl) (fun a hF => ?_)
  refine vc_op rfl (fun K hK => ws_call hF rfl (by decide) cl86_v8 rfl rfl ?_)
  with_reducible refine (bk_same_bytes w0 _ R A1 A2 l1 l2 c1 c2 hR1 hR2 hA hn ).mono ?_
  rintro e' w1 ⟨rfl, hA2⟩
  refine ⟨_, rfl, fun a hF => hK _ _ ?_⟩
  clear hK K
  replace hA2 : Hp w0 (R) w1 := hA2
  refine vc_y hF rfl rfl (by decide) _ (y_assign rfl rfl) (fun a hF => ?_)
  refine vc_nil ?_
  refine hK2 _ _ ?_; clear  hK2 K2
  apply wp_ret
  refine vc_ret1 hF Tryz.results23 rfl ?_
  exact ⟨rfl, hA2⟩
theorem event_eq {a b : Ev} : a = b ↔ a.op = b.op ∧ a.num = b.num ∧ a.clk = b.clk ∧ a.typ = b.typ ∧ a.cas = b.cas ∧ a.nam = b.nam ∧ a.v = b.v ∧ a.args = b.args ∧ a.src = b.src ∧ a.eff = b.eff := by
  cases a; cases b
  simp
instance : DecidableEq Ev := fun a b => decidable_of_iff _ (event_eq (a := a) (b := b)).symm
end Go.Proofs.YtepbmdlgdaedpaaGreatDoor
