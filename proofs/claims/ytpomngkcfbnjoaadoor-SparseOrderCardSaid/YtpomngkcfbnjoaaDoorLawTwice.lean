/- The walk of SparseTwice. -/
import Derived.Test.YtpomngkcfbnjoaaDoorSp4
import Derived.Test.YtpomngkcfbnjoaaDoorKb
import Derived.Test.YtpomngkcfbnjoaaDoorSpL
import Derived.Test.YtpomngkcfbnjoaaDoorTab4
import Derived.Test.YtpomngkcfbnjoaaDoorCs
namespace Go.Proofs.YtpomngkcfbnjoaaDoor
open Go.RowKit Go.Dk

theorem nr4_s8 : notRow Tryd.prog 4 = true := by kernel_rfl
theorem nr26_s8 : notRow Tryd.prog 26 = true := by kernel_rfl
theorem rw22_s8 : isRow Tryd.prog 22 32 = true := by kernel_rfl
theorem rw25_s8 : isRow Tryd.prog 25 33 = true := by kernel_rfl
theorem sz4_s8 : (Tryd.prog.info? 4).map (·.size) = some 1 := by kernel_rfl
theorem sz5_s8 : (Tryd.prog.info? 5).map (·.size) = some 1 := by kernel_rfl
theorem sz22_s8 : (Tryd.prog.info? 22).map (·.size) = some 32 := by kernel_rfl
theorem sz23_s8 : (Tryd.prog.info? 23).map (·.size) = some 32 := by kernel_rfl
theorem sz25_s8 : (Tryd.prog.info? 25).map (·.size) = some 33 := by kernel_rfl
theorem sz26_s8 : (Tryd.prog.info? 26).map (·.size) = some 1 := by kernel_rfl
theorem cl53_s8 : CallsTo Tryd.prog 53 := ⟨_, Tryd.func53, by kernel_rfl, by kernel_rfl⟩


set_option maxRecDepth 100000 in
set_option maxHeartbeats 2000000 in
theorem sp_sameProofs (w0 w : World) (R G G2 : List Seg) (hG : G ⊆ R) (hG2 : G2 ⊆ R) (p q : Prf) (sA qA : Option Addr) (sC qC : Nat) (hp : p.OK) (hq : q.OK) (hS : Rc w0 G sA (digV p.ss)) (hS2 : Rc w0 G2 qA (digV q.ss)) (hA : Hp w0 R w) : Calls Tryd.prog 24 #[.agg (p.cells (.slice sA p.ss.length sC)).toArray, .agg (q.cells (.slice qA q.ss.length qC)).toArray] w fun e w' => ∃ b, e = .returned (.bool b) ∧ (p = q → b = true) ∧ Hp w0 R w' := by
  refine vc_enter Tryd.func24 rfl Tryd.ntmps24 (Nat.le_of_ble_eq_true rfl) (fun a hF => ?_)
  apply wp_seq_k; intro K1 hK1
  refine wp_region_lit ?_
  refine vc_op rfl (fun K hK => hs_box (cs := p.cells (.slice sA p.ss.length sC)) hF rfl (by decide) rfl hA rfl (fun b1 w2 a hb1 hF hA3 => hK _ _ ?_))
  clear hK K
  replace hA3 : Hp w0 ([row b1 28 (p.cells (.slice sA p.ss.length sC))] :: R) w2 := hA3
  refine vc_op rfl (fun K hK => hs_box (cs := q.cells (.slice qA q.ss.length qC)) hF rfl (by decide) rfl hA3 rfl (fun b4 w5 a hb4 hF hA6 => hK _ _ ?_))
  clear hK K
  replace hA6 : Hp w0 ([row b4 28 (q.cells (.slice qA q.ss.length qC))] :: [row b1 28 (p.cells (.slice sA p.ss.length sC))] :: R) w5 := hA6
  refine vc_y hF rfl rfl (by decide) _ (y_assign rfl rfl) (fun a hF => ?_)
  refine vc_nil ?_
  refine hK1 _ _ ?_; clear  hK1 K1
  apply wp_seq_k; intro K2 hK2
  by_cases h1 : p.pr = q.pr
  · by_cases h2 : p.ct = q.ct ∧ p.ch = q.ch
    · by_cases h3 : p.bs = q.bs
      · refine wp_region_lit ?_
        refine vc_y hF rfl rfl (by decide) _ (y_field rfl Tryd.underlying28 rfl sz4_s8 (by decide) rfl (rfl : (⟨_, 0 + _, none⟩ : Addr) = ⟨_, 0, none⟩)) (fun a hF => ?_)
        refine vc_y hF rfl rfl (by decide) _ (y_ld rfl hA6.q rfl 1 rfl rfl nr4_s8) (fun a hF => ?_)
        refine vc_y hF rfl rfl (by decide) _ (y_field rfl Tryd.underlying28 rfl sz4_s8 (by decide) rfl (rfl : (⟨_, 0 + _, none⟩ : Addr) = ⟨_, 0, none⟩)) (fun a hF => ?_)
        refine vc_y hF rfl rfl (by decide) _ (y_ld rfl hA6.q rfl 0 rfl rfl nr4_s8) (fun a hF => ?_)
        refine vc_y hF rfl rfl (by decide) _ (y_eqBool rfl Tryd.underlying4 rfl rfl (show (p.pr == q.pr) = true by rw [h1]; simp)) (fun a hF => ?_)
        refine vc_y hF rfl rfl (by decide) _ (y_move rfl rfl) (fun a hF => ?_)
        refine vc_yg hF rfl rfl rfl rfl rfl (by decide) _ (y_field rfl Tryd.underlying28 rfl sz25_s8 (by decide) rfl (rfl : (⟨_, 0 + _, none⟩ : Addr) = ⟨_, 1, none⟩)) (fun a hF => ?_)
        refine vc_yg hF rfl rfl rfl rfl rfl (by decide) _ (y_ldRow rfl hA6.q rfl 1 rfl rw25_s8 (by rw [Prf.c_len hp]; decide) (Prf.c_ent hp)) (fun a hF => ?_)
        refine vc_yg hF rfl rfl rfl rfl rfl (by decide) _ (y_field rfl Tryd.underlying28 rfl sz25_s8 (by decide) rfl (rfl : (⟨_, 0 + _, none⟩ : Addr) = ⟨_, 1, none⟩)) (fun a hF => ?_)
        refine vc_yg hF rfl rfl rfl rfl rfl (by decide) _ (y_ldRow rfl hA6.q rfl 0 rfl rw25_s8 (by rw [Prf.c_len hq]; decide) (Prf.c_ent hq)) (fun a hF => ?_)
        refine vc_yg hF rfl rfl rfl rfl rfl (by decide) _ (y_eqEnt rfl (by kernel_rfl) (by kernel_rfl) (by kernel_rfl) sp_entF (by decide) (by decide) rfl rfl Tryd.underlying3 Tryd.underlying23 Tryd.underlying5 sz5_s8 sz23_s8 hp.ch hq.ch rfl rfl (show decide (p.ct = q.ct ∧ p.ch = q.ch) = true by simp [h2])) (fun a hF => ?_)
        refine vc_y hF rfl rfl (by decide) _ (y_pick rfl rfl rfl) (fun a hF => ?_)
        refine vc_y hF rfl rfl (by decide) _ (y_move rfl rfl) (fun a hF => ?_)
        refine vc_yg hF rfl rfl rfl rfl rfl (by decide) _ (y_field rfl Tryd.underlying28 rfl sz22_s8 (by decide) rfl (rfl : (⟨_, 0 + _, none⟩ : Addr) = ⟨_, 34, none⟩)) (fun a hF => ?_)
        refine vc_yg hF rfl rfl rfl rfl rfl (by decide) _ (y_ldRow rfl hA6.q rfl 1 rfl rw22_s8 (by rw [Prf.c_len hp]; decide) (Prf.c_bits hp)) (fun a hF => ?_)
        refine vc_yg hF rfl rfl rfl rfl rfl (by decide) _ (y_field rfl Tryd.underlying28 rfl sz22_s8 (by decide) rfl (rfl : (⟨_, 0 + _, none⟩ : Addr) = ⟨_, 34, none⟩)) (fun a hF => ?_)
        refine vc_yg hF rfl rfl rfl rfl rfl (by decide) _ (y_ldRow rfl hA6.q rfl 0 rfl rw22_s8 (by rw [Prf.c_len hq]; decide) (Prf.c_bits hq)) (fun a hF => ?_)
        refine vc_yg hF rfl rfl rfl rfl rfl (by decide) _ (y_eqB rfl Tryd.underlying22 Tryd.underlying5 sz5_s8 (by kernel_rfl) rfl rfl hp.bs hq.bs (show decide (p.bs = q.bs) = true by simp [h3])) (fun a hF => ?_)
        refine vc_y hF rfl rfl (by decide) _ (y_pick rfl rfl rfl) (fun a hF => ?_)
        refine vc_y hF rfl rfl (by decide) _ (y_move rfl rfl) (fun a hF => ?_)
        refine vc_yg hF rfl rfl rfl rfl rfl (by decide) _ (y_field rfl Tryd.underlying28 rfl sz26_s8 (by decide) rfl (rfl : (⟨_, 0 + _, none⟩ : Addr) = ⟨_, 66, none⟩)) (fun a hF => ?_)
        refine vc_yg hF rfl rfl rfl rfl rfl (by decide) _ (y_ld rfl hA6.q rfl 1 rfl (Prf.c_sums hp) nr26_s8) (fun a hF => ?_)
        refine vc_yg hF rfl rfl rfl rfl rfl (by decide) _ (y_field rfl Tryd.underlying28 rfl sz26_s8 (by decide) rfl (rfl : (⟨_, 0 + _, none⟩ : Addr) = ⟨_, 66, none⟩)) (fun a hF => ?_)
        refine vc_yg hF rfl rfl rfl rfl rfl (by decide) _ (y_ld rfl hA6.q rfl 0 rfl (Prf.c_sums hq) nr26_s8) (fun a hF => ?_)
        refine vc_opg hF rfl rfl rfl rfl (fun K hK => ws_call hF rfl (by decide) cl53_s8 rfl rfl ?_)
        with_reducible refine (kb_same_digest w0 _ ([row b4 28 (q.cells (.slice qA q.ss.length qC))] :: [row b1 28 (p.cells (.slice sA p.ss.length sC))] :: R) sA qA p.ss q.ss sC qC (hS.mono (List.Subset.trans hG (subC (subC (sub0))))) (hS2.mono (List.Subset.trans hG2 (subC (subC (sub0))))) (fun x hx => by rw [dc_length]; exact hp.ss x hx) (fun x hx => by rw [dc_length]; exact hq.ss x hx) hA6 (by have := hp.few; omega) ).mono ?_
        rintro e' w7 ⟨rfl, hA8⟩
        refine ⟨_, rfl, fun a hF => hK _ _ ?_⟩
        clear hK K
        replace hA8 : Hp w0 ([row b4 28 (q.cells (.slice qA q.ss.length qC))] :: [row b1 28 (p.cells (.slice sA p.ss.length sC))] :: R) w7 := hA8
        refine vc_y hF rfl rfl (by decide) _ (y_pick rfl rfl rfl) (fun a hF => ?_)
        refine vc_y hF rfl rfl (by decide) _ (y_assign rfl rfl) (fun a hF => ?_)
        refine vc_nil ?_
        refine hK2 _ _ ?_; clear  hK2 K2
        apply wp_ret
        refine vc_ret1 hF Tryd.results24 rfl ?_
        have hA9 : Hp w0 (R) w7 := Hp.sel [[row b4 28 (q.cells (.slice qA q.ss.length qC))], [row b1 28 (p.cells (.slice sA p.ss.length sC))]] R [] [0, 1] hA8 rfl
        exact ⟨_, rfl, (fun e => by rw [e]; exact decide_eq_true rfl), hA9⟩
      · refine wp_region_lit ?_
        refine vc_y hF rfl rfl (by decide) _ (y_field rfl Tryd.underlying28 rfl sz4_s8 (by decide) rfl (rfl : (⟨_, 0 + _, none⟩ : Addr) = ⟨_, 0, none⟩)) (fun a hF => ?_)
        refine vc_y hF rfl rfl (by decide) _ (y_ld rfl hA6.q rfl 1 rfl rfl nr4_s8) (fun a hF => ?_)
        refine vc_y hF rfl rfl (by decide) _ (y_field rfl Tryd.underlying28 rfl sz4_s8 (by decide) rfl (rfl : (⟨_, 0 + _, none⟩ : Addr) = ⟨_, 0, none⟩)) (fun a hF => ?_)
        refine vc_y hF rfl rfl (by decide) _ (y_ld rfl hA6.q rfl 0 rfl rfl nr4_s8) (fun a hF => ?_)
        refine vc_y hF rfl rfl (by decide) _ (y_eqBool rfl Tryd.underlying4 rfl rfl (show (p.pr == q.pr) = true by rw [h1]; simp)) (fun a hF => ?_)
        refine vc_y hF rfl rfl (by decide) _ (y_move rfl rfl) (fun a hF => ?_)
        refine vc_yg hF rfl rfl rfl rfl rfl (by decide) _ (y_field rfl Tryd.underlying28 rfl sz25_s8 (by decide) rfl (rfl : (⟨_, 0 + _, none⟩ : Addr) = ⟨_, 1, none⟩)) (fun a hF => ?_)
        refine vc_yg hF rfl rfl rfl rfl rfl (by decide) _ (y_ldRow rfl hA6.q rfl 1 rfl rw25_s8 (by rw [Prf.c_len hp]; decide) (Prf.c_ent hp)) (fun a hF => ?_)
        refine vc_yg hF rfl rfl rfl rfl rfl (by decide) _ (y_field rfl Tryd.underlying28 rfl sz25_s8 (by decide) rfl (rfl : (⟨_, 0 + _, none⟩ : Addr) = ⟨_, 1, none⟩)) (fun a hF => ?_)
        refine vc_yg hF rfl rfl rfl rfl rfl (by decide) _ (y_ldRow rfl hA6.q rfl 0 rfl rw25_s8 (by rw [Prf.c_len hq]; decide) (Prf.c_ent hq)) (fun a hF => ?_)
        refine vc_yg hF rfl rfl rfl rfl rfl (by decide) _ (y_eqEnt rfl (by kernel_rfl) (by kernel_rfl) (by kernel_rfl) sp_entF (by decide) (by decide) rfl rfl Tryd.underlying3 Tryd.underlying23 Tryd.underlying5 sz5_s8 sz23_s8 hp.ch hq.ch rfl rfl (show decide (p.ct = q.ct ∧ p.ch = q.ch) = true by simp [h2])) (fun a hF => ?_)
        refine vc_y hF rfl rfl (by decide) _ (y_pick rfl rfl rfl) (fun a hF => ?_)
        refine vc_y hF rfl rfl (by decide) _ (y_move rfl rfl) (fun a hF => ?_)
        refine vc_yg hF rfl rfl rfl rfl rfl (by decide) _ (y_field rfl Tryd.underlying28 rfl sz22_s8 (by decide) rfl (rfl : (⟨_, 0 + _, none⟩ : Addr) = ⟨_, 34, none⟩)) (fun a hF => ?_)
        refine vc_yg hF rfl rfl rfl rfl rfl (by decide) _ (y_ldRow rfl hA6.q rfl 1 rfl rw22_s8 (by rw [Prf.c_len hp]; decide) (Prf.c_bits hp)) (fun a hF => ?_)
        refine vc_yg hF rfl rfl rfl rfl rfl (by decide) _ (y_field rfl Tryd.underlying28 rfl sz22_s8 (by decide) rfl (rfl : (⟨_, 0 + _, none⟩ : Addr) = ⟨_, 34, none⟩)) (fun a hF => ?_)
        refine vc_yg hF rfl rfl rfl rfl rfl (by decide) _ (y_ldRow rfl hA6.q rfl 0 rfl rw22_s8 (by rw [Prf.c_len hq]; decide) (Prf.c_bits hq)) (fun a hF => ?_)
        refine vc_yg hF rfl rfl rfl rfl rfl (by decide) _ (y_eqB rfl Tryd.underlying22 Tryd.underlying5 sz5_s8 (by kernel_rfl) rfl rfl hp.bs hq.bs (show decide (p.bs = q.bs) = false by simp [h3])) (fun a hF => ?_)
        refine vc_y hF rfl rfl (by decide) _ (y_pick rfl rfl rfl) (fun a hF => ?_)
        refine vc_y hF rfl rfl (by decide) _ (y_move rfl rfl) (fun a hF => ?_)
        refine vc_skip hF rfl rfl rfl rfl rfl rfl (by decide) (fun a hF => ?_)
        refine vc_skip hF rfl rfl rfl rfl rfl rfl (by decide) (fun a hF => ?_)
        refine vc_skip hF rfl rfl rfl rfl rfl rfl (by decide) (fun a hF => ?_)
        refine vc_skip hF rfl rfl rfl rfl rfl rfl (by decide) (fun a hF => ?_)
        refine vc_skip hF rfl rfl rfl rfl rfl rfl (by decide) (fun a hF => ?_)
        refine vc_y hF rfl rfl (by decide) _ (y_pick rfl rfl rfl) (fun a hF => ?_)
        refine vc_y hF rfl rfl (by decide) _ (y_assign rfl rfl) (fun a hF => ?_)
        refine vc_nil ?_
        refine hK2 _ _ ?_; clear  hK2 K2
        apply wp_ret
        refine vc_ret1 hF Tryd.results24 rfl ?_
        have hA10 : Hp w0 (R) w5 := Hp.sel [[row b4 28 (q.cells (.slice qA q.ss.length qC))], [row b1 28 (p.cells (.slice sA p.ss.length sC))]] R [] [0, 1] hA6 rfl
        exact ⟨_, rfl, (fun e => absurd (by rw [e]) h3), hA10⟩
    · refine wp_region_lit ?_
      refine vc_y hF rfl rfl (by decide) _ (y_field rfl Tryd.underlying28 rfl sz4_s8 (by decide) rfl (rfl : (⟨_, 0 + _, none⟩ : Addr) = ⟨_, 0, none⟩)) (fun a hF => ?_)
      refine vc_y hF rfl rfl (by decide) _ (y_ld rfl hA6.q rfl 1 rfl rfl nr4_s8) (fun a hF => ?_)
      refine vc_y hF rfl rfl (by decide) _ (y_field rfl Tryd.underlying28 rfl sz4_s8 (by decide) rfl (rfl : (⟨_, 0 + _, none⟩ : Addr) = ⟨_, 0, none⟩)) (fun a hF => ?_)
      refine vc_y hF rfl rfl (by decide) _ (y_ld rfl hA6.q rfl 0 rfl rfl nr4_s8) (fun a hF => ?_)
      refine vc_y hF rfl rfl (by decide) _ (y_eqBool rfl Tryd.underlying4 rfl rfl (show (p.pr == q.pr) = true by rw [h1]; simp)) (fun a hF => ?_)
      refine vc_y hF rfl rfl (by decide) _ (y_move rfl rfl) (fun a hF => ?_)
      refine vc_yg hF rfl rfl rfl rfl rfl (by decide) _ (y_field rfl Tryd.underlying28 rfl sz25_s8 (by decide) rfl (rfl : (⟨_, 0 + _, none⟩ : Addr) = ⟨_, 1, none⟩)) (fun a hF => ?_)
      refine vc_yg hF rfl rfl rfl rfl rfl (by decide) _ (y_ldRow rfl hA6.q rfl 1 rfl rw25_s8 (by rw [Prf.c_len hp]; decide) (Prf.c_ent hp)) (fun a hF => ?_)
      refine vc_yg hF rfl rfl rfl rfl rfl (by decide) _ (y_field rfl Tryd.underlying28 rfl sz25_s8 (by decide) rfl (rfl : (⟨_, 0 + _, none⟩ : Addr) = ⟨_, 1, none⟩)) (fun a hF => ?_)
      refine vc_yg hF rfl rfl rfl rfl rfl (by decide) _ (y_ldRow rfl hA6.q rfl 0 rfl rw25_s8 (by rw [Prf.c_len hq]; decide) (Prf.c_ent hq)) (fun a hF => ?_)
      refine vc_yg hF rfl rfl rfl rfl rfl (by decide) _ (y_eqEnt rfl (by kernel_rfl) (by kernel_rfl) (by kernel_rfl) sp_entF (by decide) (by decide) rfl rfl Tryd.underlying3 Tryd.underlying23 Tryd.underlying5 sz5_s8 sz23_s8 hp.ch hq.ch rfl rfl (show decide (p.ct = q.ct ∧ p.ch = q.ch) = false by simp [h2])) (fun a hF => ?_)
      refine vc_y hF rfl rfl (by decide) _ (y_pick rfl rfl rfl) (fun a hF => ?_)
      refine vc_y hF rfl rfl (by decide) _ (y_move rfl rfl) (fun a hF => ?_)
      refine vc_skip hF rfl rfl rfl rfl rfl rfl (by decide) (fun a hF => ?_)
      refine vc_skip hF rfl rfl rfl rfl rfl rfl (by decide) (fun a hF => ?_)
      refine vc_skip hF rfl rfl rfl rfl rfl rfl (by decide) (fun a hF => ?_)
      refine vc_skip hF rfl rfl rfl rfl rfl rfl (by decide) (fun a hF => ?_)
      refine vc_skip hF rfl rfl rfl rfl rfl rfl (by decide) (fun a hF => ?_)
      refine vc_y hF rfl rfl (by decide) _ (y_pick rfl rfl rfl) (fun a hF => ?_)
      refine vc_y hF rfl rfl (by decide) _ (y_move rfl rfl) (fun a hF => ?_)
      refine vc_skip hF rfl rfl rfl rfl rfl rfl (by decide) (fun a hF => ?_)
      refine vc_skip hF rfl rfl rfl rfl rfl rfl (by decide) (fun a hF => ?_)
      refine vc_skip hF rfl rfl rfl rfl rfl rfl (by decide) (fun a hF => ?_)
      refine vc_skip hF rfl rfl rfl rfl rfl rfl (by decide) (fun a hF => ?_)
      refine vc_skip hF rfl rfl rfl rfl rfl rfl (by decide) (fun a hF => ?_)
      refine vc_y hF rfl rfl (by decide) _ (y_pick rfl rfl rfl) (fun a hF => ?_)
      refine vc_y hF rfl rfl (by decide) _ (y_assign rfl rfl) (fun a hF => ?_)
      refine vc_nil ?_
      refine hK2 _ _ ?_; clear  hK2 K2
      apply wp_ret
      refine vc_ret1 hF Tryd.results24 rfl ?_
      have hA11 : Hp w0 (R) w5 := Hp.sel [[row b4 28 (q.cells (.slice qA q.ss.length qC))], [row b1 28 (p.cells (.slice sA p.ss.length sC))]] R [] [0, 1] hA6 rfl
      exact ⟨_, rfl, (fun e => absurd (by rw [e]; exact ⟨rfl, rfl⟩) h2), hA11⟩
  · refine wp_region_lit ?_
    refine vc_y hF rfl rfl (by decide) _ (y_field rfl Tryd.underlying28 rfl sz4_s8 (by decide) rfl (rfl : (⟨_, 0 + _, none⟩ : Addr) = ⟨_, 0, none⟩)) (fun a hF => ?_)
    refine vc_y hF rfl rfl (by decide) _ (y_ld rfl hA6.q rfl 1 rfl rfl nr4_s8) (fun a hF => ?_)
    refine vc_y hF rfl rfl (by decide) _ (y_field rfl Tryd.underlying28 rfl sz4_s8 (by decide) rfl (rfl : (⟨_, 0 + _, none⟩ : Addr) = ⟨_, 0, none⟩)) (fun a hF => ?_)
    refine vc_y hF rfl rfl (by decide) _ (y_ld rfl hA6.q rfl 0 rfl rfl nr4_s8) (fun a hF => ?_)
    refine vc_y hF rfl rfl (by decide) _ (y_eqBool rfl Tryd.underlying4 rfl rfl (show (p.pr == q.pr) = false by simp [h1])) (fun a hF => ?_)
    refine vc_y hF rfl rfl (by decide) _ (y_move rfl rfl) (fun a hF => ?_)
    refine vc_skip hF rfl rfl rfl rfl rfl rfl (by decide) (fun a hF => ?_)
    refine vc_skip hF rfl rfl rfl rfl rfl rfl (by decide) (fun a hF => ?_)
    refine vc_skip hF rfl rfl rfl rfl rfl rfl (by decide) (fun a hF => ?_)
    refine vc_skip hF rfl rfl rfl rfl rfl rfl (by decide) (fun a hF => ?_)
    refine vc_skip hF rfl rfl rfl rfl rfl rfl (by decide) (fun a hF => ?_)
    refine vc_y hF rfl rfl (by decide) _ (y_pick rfl rfl rfl) (fun a hF => ?_)
    refine vc_y hF rfl rfl (by decide) _ (y_move rfl rfl) (fun a hF => ?_)
    refine vc_skip hF rfl rfl rfl rfl rfl rfl (by decide) (fun a hF => ?_)
    refine vc_skip hF rfl rfl rfl rfl rfl rfl (by decide) (fun a hF => ?_)
    refine vc_skip hF rfl rfl rfl rfl rfl rfl (by decide) (fun a hF => ?_)
    refine vc_skip hF rfl rfl rfl rfl rfl rfl (by decide) (fun a hF => ?_)
    refine vc_skip hF rfl rfl rfl rfl rfl rfl (by decide) (fun a hF => ?_)
    refine vc_y hF rfl rfl (by decide) _ (y_pick rfl rfl rfl) (fun a hF => ?_)
    refine vc_y hF rfl rfl (by decide) _ (y_move rfl rfl) (fun a hF => ?_)
    refine vc_skip hF rfl rfl rfl rfl rfl rfl (by decide) (fun a hF => ?_)
    refine vc_skip hF rfl rfl rfl rfl rfl rfl (by decide) (fun a hF => ?_)
    refine vc_skip hF rfl rfl rfl rfl rfl rfl (by decide) (fun a hF => ?_)
    refine vc_skip hF rfl rfl rfl rfl rfl rfl (by decide) (fun a hF => ?_)
    refine vc_skip hF rfl rfl rfl rfl rfl rfl (by decide) (fun a hF => ?_)
    refine vc_y hF rfl rfl (by decide) _ (y_pick rfl rfl rfl) (fun a hF => ?_)
    refine vc_y hF rfl rfl (by decide) _ (y_assign rfl rfl) (fun a hF => ?_)
    refine vc_nil ?_
    refine hK2 _ _ ?_; clear  hK2 K2
    apply wp_ret
    refine vc_ret1 hF Tryd.results24 rfl ?_
    have hA12 : Hp w0 (R) w5 := Hp.sel [[row b4 28 (q.cells (.slice qA q.ss.length qC))], [row b1 28 (p.cells (.slice sA p.ss.length sC))]] R [] [0, 1] hA6 rfl
    exact ⟨_, rfl, (fun e => absurd (by rw [e]) h1), hA12⟩

end Go.Proofs.YtpomngkcfbnjoaaDoor
