/- The walk of SparseTwice. -/
import Derived.Test.YtpomngkcfbnjoaaDoorSp6
import Derived.Test.YtpomngkcfbnjoaaDoorSpT
import Derived.Test.YtpomngkcfbnjoaaDoorCs
namespace Go.Proofs.YtpomngkcfbnjoaaDoor
open Go.RowKit Go.Dk

theorem txs_at {ts : List TxX} {p : Prf} {width : Int} {k : List UInt8} {n i : Nat} (h : ts.map (·.l) = p.texts width k n) (hi : i < n) : ∃ t, ts[i]? = some t ∧ t.l = p.text width k i := by
  have h1 : (ts.map (·.l))[i]? = some (p.text width k i) := by rw [h]; unfold Prf.texts; rw [List.getElem?_map, List.getElem?_range hi]; rfl
  rw [List.getElem?_map] at h1
  cases ht : ts[i]? with
  | none => rw [ht] at h1; cases h1
  | some t => rw [ht] at h1; exact ⟨t, rfl, Option.some.inj h1⟩
theorem txs_pieces {w0 : World} {R : List Seg} : ∀ (ts : List TxX), (∀ t ∈ ts, ∃ A c, t.v = .slice A t.l.length c ∧ t.l.length ≤ c ∧ Rd w0 R A t.l) → ∃ ps : List Piece, ps.map pieceV = ts.map (·.v) ∧ ps.map (·.2.2) = ts.map (·.l) ∧ ∀ p ∈ ps, p.2.2.length ≤ p.2.1 ∧ Rd w0 R p.1 p.2.2
  | [], _ => ⟨[], rfl, rfl, fun _ h => by cases h⟩
  | t :: ts, h => by
    obtain ⟨A, c, e, h1, h2⟩ := h t (List.mem_cons_self ..)
    obtain ⟨ps, e1, e2, h3⟩ := txs_pieces ts (fun u hu => h u (List.mem_cons_of_mem _ hu))
    refine ⟨(A, c, t.l) :: ps, by rw [List.map_cons, List.map_cons, e1, e]; rfl, by rw [List.map_cons, List.map_cons, e2], fun p hp => ?_⟩
    rcases List.mem_cons.1 hp with rfl | hp
    · exact ⟨h1, h2⟩
    · exact h3 p hp
theorem TxsS.rdR {w0 : World} {R : List Seg} {ts : List TxX} {L : List (List UInt8)} {tv : Value} {XL : Seg} (h : TxsS ts L tv XL) (hR : txS ts ∈ R) : ∀ t ∈ ts, ∃ A c, t.v = .slice A t.l.length c ∧ t.l.length ≤ c ∧ Rd w0 R A t.l := fun t ht => by
  obtain ⟨_, A, c, e, hc, h1⟩ := (h.bufs t ht).rd (w0 := w0) (R := [t.X]) (List.mem_cons_self ..)
  refine ⟨A, c, e, hc, h1.monoF (fun r hr => ?_)⟩
  rw [List.flatten_cons, List.flatten_nil, List.append_nil] at hr
  exact List.mem_flatten.2 ⟨_, hR, List.mem_flatten.2 ⟨_, List.mem_map_of_mem ht, hr⟩⟩
theorem Prf.texts_at (p : Prf) (width : Int) (k : List UInt8) {n i : Nat} (hi : i < n) : (p.texts width k n)[i]? = some (p.text width k i) := by unfold Prf.texts; rw [List.getElem?_map, List.getElem?_range hi]; rfl
theorem clash_two {p q : Prf} {width : Int} {k : List UInt8} {b : Bool} {t1 t2 : List UInt8} (hex : ∃ i, i < 257 ∧ p.text width k i ≠ q.text width k i ∧ p.lead width k i = q.lead width k i) (h : ClRes width (p.texts width k 257 ++ q.texts width k 257) b t1 t2) : b = true ∧ t1 ≠ t2 ∧ cutL (sha t1) width = cutL (sha t2) width := by
  have hl1 : (p.texts width k 257).length = 257 := p.texts_len ..
  have hl2 : (q.texts width k 257).length = 257 := q.texts_len ..
  rcases h with ⟨rfl, rfl, rfl, hn⟩ | ⟨rfl, i, j, hc, hj, rfl, rfl⟩
  · obtain ⟨i, hi, ht, hd⟩ := hex
    have e1 : txL (p.texts width k 257 ++ q.texts width k 257) i = p.text width k i := by
      unfold txL; rw [List.getElem?_append_left (by omega), p.texts_at width k hi]; rfl
    have e2 : txL (p.texts width k 257 ++ q.texts width k 257) (257 + i) = q.text width k i := by
      unfold txL; rw [List.getElem?_append_right (by omega), hl1, Nat.add_sub_cancel_left, q.texts_at width k hi]; rfl
    have h1 := hn i (257 + i) (by rw [List.length_append]; omega) (by rw [List.length_append]; omega) (by unfold dgL; rw [e1, e2, ← p.lead_eq, ← q.lead_eq]; exact hd)
    rw [e1, e2] at h1
    exact absurd h1 ht
  · exact ⟨rfl, hc.2.2.1, hc.2.1⟩

theorem sp_sumB (w0 w : World) (R G : List Seg) (hG : G ⊆ R) (A : Option Addr) (l : List UInt8) (c n : Nat) (hn : n = l.length) (hR : Rd w0 G A l) (hc : l.length ≤ c) (hl : l.length < 140737488354000) (hT : Tab w0) (hA : Hp w0 R w) : Calls Tryd.prog 29 #[.slice A n c] w fun e w' => e = .returned (.agg (dc (sha l)).toArray) ∧ Hp w0 R w' := by
  refine (digest_all w A l c n hn (by omega) ((hR.mono hG).bts hA.q) (by omega) (hT.hp hA)).mono ?_
  rintro e w' ⟨rfl, hw⟩
  exact ⟨rfl, hA.then0 hw⟩
theorem nr4_s8 : notRow Tryd.prog 4 = true := by kernel_rfl
theorem nr26_s8 : notRow Tryd.prog 26 = true := by kernel_rfl
theorem nr59_s8 : notRow Tryd.prog 59 = true := by kernel_rfl
theorem rw22_s8 : isRow Tryd.prog 22 32 = true := by kernel_rfl
theorem rw23_s8 : isRow Tryd.prog 23 32 = true := by kernel_rfl
theorem rw25_s8 : isRow Tryd.prog 25 33 = true := by kernel_rfl
theorem rw28_s8 : isRow Tryd.prog 28 67 = true := by kernel_rfl
theorem sz4_s8 : (Tryd.prog.info? 4).map (·.size) = some 1 := by kernel_rfl
theorem sz5_s8 : (Tryd.prog.info? 5).map (·.size) = some 1 := by kernel_rfl
theorem sz22_s8 : (Tryd.prog.info? 22).map (·.size) = some 32 := by kernel_rfl
theorem sz23_s8 : (Tryd.prog.info? 23).map (·.size) = some 32 := by kernel_rfl
theorem sz25_s8 : (Tryd.prog.info? 25).map (·.size) = some 33 := by kernel_rfl
theorem sz26_s8 : (Tryd.prog.info? 26).map (·.size) = some 1 := by kernel_rfl
theorem sz28_s8 : (Tryd.prog.info? 28).map (·.size) = some 67 := by kernel_rfl
theorem sz59_s8 : (Tryd.prog.info? 59).map (·.size) = some 1 := by kernel_rfl
theorem cl9_s8 : CallsTo Tryd.prog 9 := ⟨_, Tryd.func9, by kernel_rfl, by kernel_rfl⟩
theorem cl12_s8 : CallsTo Tryd.prog 12 := ⟨_, Tryd.func12, by kernel_rfl, by kernel_rfl⟩
theorem cl14_s8 : CallsTo Tryd.prog 14 := ⟨_, Tryd.func14, by kernel_rfl, by kernel_rfl⟩
theorem cl24_s8 : CallsTo Tryd.prog 24 := ⟨_, Tryd.func24, by kernel_rfl, by kernel_rfl⟩
theorem cl25_s8 : CallsTo Tryd.prog 25 := ⟨_, Tryd.func25, by kernel_rfl, by kernel_rfl⟩
theorem cl26_s8 : CallsTo Tryd.prog 26 := ⟨_, Tryd.func26, by kernel_rfl, by kernel_rfl⟩
theorem cl27_s8 : CallsTo Tryd.prog 27 := ⟨_, Tryd.func27, by kernel_rfl, by kernel_rfl⟩
theorem cl28_s8 : CallsTo Tryd.prog 28 := ⟨_, Tryd.func28, by kernel_rfl, by kernel_rfl⟩
theorem cl29_s8 : CallsTo Tryd.prog 29 := ⟨_, Tryd.func29, by kernel_rfl, by kernel_rfl⟩
theorem cl53_s8 : CallsTo Tryd.prog 53 := ⟨_, Tryd.func53, by kernel_rfl, by kernel_rfl⟩


set_option maxRecDepth 100000 in
set_option maxHeartbeats 2000000 in
theorem sp_sameProofs (w0 w : World) (R G G2 : List Seg) (hG : G ⊆ R) (hG2 : G2 ⊆ R) (p q : Prf) (sA qA : Option Addr) (sC qC : Nat) (hp : p.OK) (hq : q.OK) (hS : Rc w0 G sA (digV p.ss)) (hS2 : Rc w0 G2 qA (digV q.ss)) (hA : Hp w0 R w) : Calls Tryd.prog 24 #[.agg (p.cells (.slice sA p.ss.length sC)).toArray, .agg (q.cells (.slice qA q.ss.length qC)).toArray] w fun e w' => ∃ b, e = .returned (.bool b) ∧ (p = q → b = true) ∧ Hp w0 R w' := by
  refine vc_enter Tryd.func24 rfl Tryd.ntmps24 (Nat.le_of_ble_eq_true rfl) (fun a hF => ?_)
  apply wp_seq_k; intro K1 hK1
  refine wp_region_lit ?_
  refine vc_op rfl (fun K hK => hs_box (cs := p.cells (.slice sA p.ss.length sC)) hF rfl (by decide) rfl hA rfl (fun b1 w2 a hb1 hF hA3 => hK _ _ ?_))
  clear hK K
  replace hA3 : Hp w0 ([row b1 28 (p.cells (.slice sA p.ss.length sC))] :: R) w2 := hA3
  refine vc_op rfl (fun K hK => hs_box (cs := q.cells (.slice qA q.ss.length qC)) hF rfl (by decide) rfl hA3 rfl (fun b4 w5 a hb4 hF hA6 => hK _ _ ?_))
  clear hK K
  replace hA6 : Hp w0 ([row b4 28 (q.cells (.slice qA q.ss.length qC))] :: [row b1 28 (p.cells (.slice sA p.ss.length sC))] :: R) w5 := hA6
  refine vc_y hF rfl rfl (by decide) _ (y_assign rfl rfl) (fun a hF => ?_)
  refine vc_nil ?_
  refine hK1 _ _ ?_; clear  hK1 K1
  apply wp_seq_k; intro K2 hK2
  by_cases h1 : p.pr = q.pr
  · by_cases h2 : p.ct = q.ct ∧ p.ch = q.ch
    · by_cases h3 : p.bs = q.bs
      · refine wp_region_lit ?_
        refine vc_y hF rfl rfl (by decide) _ (y_field rfl Tryd.underlying28 rfl sz4_s8 (by decide) rfl (rfl : (⟨_, 0 + _, none⟩ : Addr) = ⟨_, 0, none⟩)) (fun a hF => ?_)
        refine vc_y hF rfl rfl (by decide) _ (y_ld rfl hA6.q rfl 1 rfl rfl nr4_s8) (fun a hF => ?_)
        refine vc_y hF rfl rfl (by decide) _ (y_field rfl Tryd.underlying28 rfl sz4_s8 (by decide) rfl (rfl : (⟨_, 0 + _, none⟩ : Addr) = ⟨_, 0, none⟩)) (fun a hF => ?_)
        refine vc_y hF rfl rfl (by decide) _ (y_ld rfl hA6.q rfl 0 rfl rfl nr4_s8) (fun a hF => ?_)
        refine vc_y hF rfl rfl (by decide) _ (y_eqBool rfl Tryd.underlying4 rfl rfl (show (p.pr == q.pr) = true by rw [h1]; simp)) (fun a hF => ?_)
        refine vc_y hF rfl rfl (by decide) _ (y_move rfl rfl) (fun a hF => ?_)
        refine vc_yg hF rfl rfl rfl rfl rfl (by decide) _ (y_field rfl Tryd.underlying28 rfl sz25_s8 (by decide) rfl (rfl : (⟨_, 0 + _, none⟩ : Addr) = ⟨_, 1, none⟩)) (fun a hF => ?_)
        refine vc_yg hF rfl rfl rfl rfl rfl (by decide) _ (y_ldRow rfl hA6.q rfl 1 rfl rw25_s8 (by rw [Prf.c_len hp]; decide) (Prf.c_ent hp)) (fun a hF => ?_)
        refine vc_yg hF rfl rfl rfl rfl rfl (by decide) _ (y_field rfl Tryd.underlying28 rfl sz25_s8 (by decide) rfl (rfl : (⟨_, 0 + _, none⟩ : Addr) = ⟨_, 1, none⟩)) (fun a hF => ?_)
        refine vc_yg hF rfl rfl rfl rfl rfl (by decide) _ (y_ldRow rfl hA6.q rfl 0 rfl rw25_s8 (by rw [Prf.c_len hq]; decide) (Prf.c_ent hq)) (fun a hF => ?_)
        refine vc_yg hF rfl rfl rfl rfl rfl (by decide) _ (y_eqEnt rfl (by kernel_rfl) (by kernel_rfl) (by kernel_rfl) sp_entF (by decide) (by decide) rfl rfl Tryd.underlying3 Tryd.underlying23 Tryd.underlying5 sz5_s8 sz23_s8 hp.ch hq.ch rfl rfl (show decide (p.ct = q.ct ∧ p.ch = q.ch) = true by simp [h2])) (fun a hF => ?_)
        refine vc_y hF rfl rfl (by decide) _ (y_pick rfl rfl rfl) (fun a hF => ?_)
        refine vc_y hF rfl rfl (by decide) _ (y_move rfl rfl) (fun a hF => ?_)
        refine vc_yg hF rfl rfl rfl rfl rfl (by decide) _ (y_field rfl Tryd.underlying28 rfl sz22_s8 (by decide) rfl (rfl : (⟨_, 0 + _, none⟩ : Addr) = ⟨_, 34, none⟩)) (fun a hF => ?_)
        refine vc_yg hF rfl rfl rfl rfl rfl (by decide) _ (y_ldRow rfl hA6.q rfl 1 rfl rw22_s8 (by rw [Prf.c_len hp]; decide) (Prf.c_bits hp)) (fun a hF => ?_)
        refine vc_yg hF rfl rfl rfl rfl rfl (by decide) _ (y_field rfl Tryd.underlying28 rfl sz22_s8 (by decide) rfl (rfl : (⟨_, 0 + _, none⟩ : Addr) = ⟨_, 34, none⟩)) (fun a hF => ?_)
        refine vc_yg hF rfl rfl rfl rfl rfl (by decide) _ (y_ldRow rfl hA6.q rfl 0 rfl rw22_s8 (by rw [Prf.c_len hq]; decide) (Prf.c_bits hq)) (fun a hF => ?_)
        refine vc_yg hF rfl rfl rfl rfl rfl (by decide) _ (y_eqB rfl Tryd.underlying22 Tryd.underlying5 sz5_s8 (by kernel_rfl) rfl rfl hp.bs hq.bs (show decide (p.bs = q.bs) = true by simp [h3])) (fun a hF => ?_)
        refine vc_y hF rfl rfl (by decide) _ (y_pick rfl rfl rfl) (fun a hF => ?_)
        refine vc_y hF rfl rfl (by decide) _ (y_move rfl rfl) (fun a hF => ?_)
        refine vc_yg hF rfl rfl rfl rfl rfl (by decide) _ (y_field rfl Tryd.underlying28 rfl sz26_s8 (by decide) rfl (rfl : (⟨_, 0 + _, none⟩ : Addr) = ⟨_, 66, none⟩)) (fun a hF => ?_)
        refine vc_yg hF rfl rfl rfl rfl rfl (by decide) _ (y_ld rfl hA6.q rfl 1 rfl (Prf.c_sums hp) nr26_s8) (fun a hF => ?_)
        refine vc_yg hF rfl rfl rfl rfl rfl (by decide) _ (y_field rfl Tryd.underlying28 rfl sz26_s8 (by decide) rfl (rfl : (⟨_, 0 + _, none⟩ : Addr) = ⟨_, 66, none⟩)) (fun a hF => ?_)
        refine vc_yg hF rfl rfl rfl rfl rfl (by decide) _ (y_ld rfl hA6.q rfl 0 rfl (Prf.c_sums hq) nr26_s8) (fun a hF => ?_)
        refine vc_opg hF rfl rfl rfl rfl (fun K hK => ws_call hF rfl (by decide) cl53_s8 rfl rfl ?_)
        with_reducible refine (kb_same_digest w0 _ ([row b4 28 (q.cells (.slice qA q.ss.length qC))] :: [row b1 28 (p.cells (.slice sA p.ss.length sC))] :: R) sA qA p.ss q.ss sC qC (hS.mono (List.Subset.trans hG (subC (subC (sub0))))) (hS2.mono (List.Subset.trans hG2 (subC (subC (sub0))))) (fun x hx => by rw [dc_length]; exact hp.ss x hx) (fun x hx => by rw [dc_length]; exact hq.ss x hx) hA6 (by have := hp.few; omega) ).mono ?_
        rintro e' w7 ⟨rfl, hA8⟩
        refine ⟨_, rfl, fun a hF => hK _ _ ?_⟩
        clear hK K
        replace hA8 : Hp w0 ([row b4 28 (q.cells (.slice qA q.ss.length qC))] :: [row b1 28 (p.cells (.slice sA p.ss.length sC))] :: R) w7 := hA8
        refine vc_y hF rfl rfl (by decide) _ (y_pick rfl rfl rfl) (fun a hF => ?_)
        refine vc_y hF rfl rfl (by decide) _ (y_assign rfl rfl) (fun a hF => ?_)
        refine vc_nil ?_
        refine hK2 _ _ ?_; clear  hK2 K2
        apply wp_ret
        refine vc_ret1 hF Tryd.results24 rfl ?_
        have hA9 : Hp w0 (R) w7 := Hp.sel [[row b4 28 (q.cells (.slice qA q.ss.length qC))], [row b1 28 (p.cells (.slice sA p.ss.length sC))]] R [] [0, 1] hA8 rfl
        exact ⟨_, rfl, (fun e => by rw [e]; exact decide_eq_true rfl), hA9⟩
      · refine wp_region_lit ?_
        refine vc_y hF rfl rfl (by decide) _ (y_field rfl Tryd.underlying28 rfl sz4_s8 (by decide) rfl (rfl : (⟨_, 0 + _, none⟩ : Addr) = ⟨_, 0, none⟩)) (fun a hF => ?_)
        refine vc_y hF rfl rfl (by decide) _ (y_ld rfl hA6.q rfl 1 rfl rfl nr4_s8) (fun a hF => ?_)
        refine vc_y hF rfl rfl (by decide) _ (y_field rfl Tryd.underlying28 rfl sz4_s8 (by decide) rfl (rfl : (⟨_, 0 + _, none⟩ : Addr) = ⟨_, 0, none⟩)) (fun a hF => ?_)
        refine vc_y hF rfl rfl (by decide) _ (y_ld rfl hA6.q rfl 0 rfl rfl nr4_s8) (fun a hF => ?_)
        refine vc_y hF rfl rfl (by decide) _ (y_eqBool rfl Tryd.underlying4 rfl rfl (show (p.pr == q.pr) = true by rw [h1]; simp)) (fun a hF => ?_)
        refine vc_y hF rfl rfl (by decide) _ (y_move rfl rfl) (fun a hF => ?_)
        refine vc_yg hF rfl rfl rfl rfl rfl (by decide) _ (y_field rfl Tryd.underlying28 rfl sz25_s8 (by decide) rfl (rfl : (⟨_, 0 + _, none⟩ : Addr) = ⟨_, 1, none⟩)) (fun a hF => ?_)
        refine vc_yg hF rfl rfl rfl rfl rfl (by decide) _ (y_ldRow rfl hA6.q rfl 1 rfl rw25_s8 (by rw [Prf.c_len hp]; decide) (Prf.c_ent hp)) (fun a hF => ?_)
        refine vc_yg hF rfl rfl rfl rfl rfl (by decide) _ (y_field rfl Tryd.underlying28 rfl sz25_s8 (by decide) rfl (rfl : (⟨_, 0 + _, none⟩ : Addr) = ⟨_, 1, none⟩)) (fun a hF => ?_)
        refine vc_yg hF rfl rfl rfl rfl rfl (by decide) _ (y_ldRow rfl hA6.q rfl 0 rfl rw25_s8 (by rw [Prf.c_len hq]; decide) (Prf.c_ent hq)) (fun a hF => ?_)
        refine vc_yg hF rfl rfl rfl rfl rfl (by decide) _ (y_eqEnt rfl (by kernel_rfl) (by kernel_rfl) (by kernel_rfl) sp_entF (by decide) (by decide) rfl rfl Tryd.underlying3 Tryd.underlying23 Tryd.underlying5 sz5_s8 sz23_s8 hp.ch hq.ch rfl rfl (show decide (p.ct = q.ct ∧ p.ch = q.ch) = true by simp [h2])) (fun a hF => ?_)
        refine vc_y hF rfl rfl (by decide) _ (y_pick rfl rfl rfl) (fun a hF => ?_)
        refine vc_y hF rfl rfl (by decide) _ (y_move rfl rfl) (fun a hF => ?_)
        refine vc_yg hF rfl rfl rfl rfl rfl (by decide) _ (y_field rfl Tryd.underlying28 rfl sz22_s8 (by decide) rfl (rfl : (⟨_, 0 + _, none⟩ : Addr) = ⟨_, 34, none⟩)) (fun a hF => ?_)
        refine vc_yg hF rfl rfl rfl rfl rfl (by decide) _ (y_ldRow rfl hA6.q rfl 1 rfl rw22_s8 (by rw [Prf.c_len hp]; decide) (Prf.c_bits hp)) (fun a hF => ?_)
        refine vc_yg hF rfl rfl rfl rfl rfl (by decide) _ (y_field rfl Tryd.underlying28 rfl sz22_s8 (by decide) rfl (rfl : (⟨_, 0 + _, none⟩ : Addr) = ⟨_, 34, none⟩)) (fun a hF => ?_)
        refine vc_yg hF rfl rfl rfl rfl rfl (by decide) _ (y_ldRow rfl hA6.q rfl 0 rfl rw22_s8 (by rw [Prf.c_len hq]; decide) (Prf.c_bits hq)) (fun a hF => ?_)
        refine vc_yg hF rfl rfl rfl rfl rfl (by decide) _ (y_eqB rfl Tryd.underlying22 Tryd.underlying5 sz5_s8 (by kernel_rfl) rfl rfl hp.bs hq.bs (show decide (p.bs = q.bs) = false by simp [h3])) (fun a hF => ?_)
        refine vc_y hF rfl rfl (by decide) _ (y_pick rfl rfl rfl) (fun a hF => ?_)
        refine vc_y hF rfl rfl (by decide) _ (y_move rfl rfl) (fun a hF => ?_)
        refine vc_skip hF rfl rfl rfl rfl rfl rfl (by decide) (fun a hF => ?_)
        refine vc_skip hF rfl rfl rfl rfl rfl rfl (by decide) (fun a hF => ?_)
        refine vc_skip hF rfl rfl rfl rfl rfl rfl (by decide) (fun a hF => ?_)
        refine vc_skip hF rfl rfl rfl rfl rfl rfl (by decide) (fun a hF => ?_)
        refine vc_skip hF rfl rfl rfl rfl rfl rfl (by decide) (fun a hF => ?_)
        refine vc_y hF rfl rfl (by decide) _ (y_pick rfl rfl rfl) (fun a hF => ?_)
        refine vc_y hF rfl rfl (by decide) _ (y_assign rfl rfl) (fun a hF => ?_)
        refine vc_nil ?_
        refine hK2 _ _ ?_; clear  hK2 K2
        apply wp_ret
        refine vc_ret1 hF Tryd.results24 rfl ?_
        have hA10 : Hp w0 (R) w5 := Hp.sel [[row b4 28 (q.cells (.slice qA q.ss.length qC))], [row b1 28 (p.cells (.slice sA p.ss.length sC))]] R [] [0, 1] hA6 rfl
        exact ⟨_, rfl, (fun e => absurd (by rw [e]) h3), hA10⟩
    · refine wp_region_lit ?_
      refine vc_y hF rfl rfl (by decide) _ (y_field rfl Tryd.underlying28 rfl sz4_s8 (by decide) rfl (rfl : (⟨_, 0 + _, none⟩ : Addr) = ⟨_, 0, none⟩)) (fun a hF => ?_)
      refine vc_y hF rfl rfl (by decide) _ (y_ld rfl hA6.q rfl 1 rfl rfl nr4_s8) (fun a hF => ?_)
      refine vc_y hF rfl rfl (by decide) _ (y_field rfl Tryd.underlying28 rfl sz4_s8 (by decide) rfl (rfl : (⟨_, 0 + _, none⟩ : Addr) = ⟨_, 0, none⟩)) (fun a hF => ?_)
      refine vc_y hF rfl rfl (by decide) _ (y_ld rfl hA6.q rfl 0 rfl rfl nr4_s8) (fun a hF => ?_)
      refine vc_y hF rfl rfl (by decide) _ (y_eqBool rfl Tryd.underlying4 rfl rfl (show (p.pr == q.pr) = true by rw [h1]; simp)) (fun a hF => ?_)
      refine vc_y hF rfl rfl (by decide) _ (y_move rfl rfl) (fun a hF => ?_)
      refine vc_yg hF rfl rfl rfl rfl rfl (by decide) _ (y_field rfl Tryd.underlying28 rfl sz25_s8 (by decide) rfl (rfl : (⟨_, 0 + _, none⟩ : Addr) = ⟨_, 1, none⟩)) (fun a hF => ?_)
      refine vc_yg hF rfl rfl rfl rfl rfl (by decide) _ (y_ldRow rfl hA6.q rfl 1 rfl rw25_s8 (by rw [Prf.c_len hp]; decide) (Prf.c_ent hp)) (fun a hF => ?_)
      refine vc_yg hF rfl rfl rfl rfl rfl (by decide) _ (y_field rfl Tryd.underlying28 rfl sz25_s8 (by decide) rfl (rfl : (⟨_, 0 + _, none⟩ : Addr) = ⟨_, 1, none⟩)) (fun a hF => ?_)
      refine vc_yg hF rfl rfl rfl rfl rfl (by decide) _ (y_ldRow rfl hA6.q rfl 0 rfl rw25_s8 (by rw [Prf.c_len hq]; decide) (Prf.c_ent hq)) (fun a hF => ?_)
      refine vc_yg hF rfl rfl rfl rfl rfl (by decide) _ (y_eqEnt rfl (by kernel_rfl) (by kernel_rfl) (by kernel_rfl) sp_entF (by decide) (by decide) rfl rfl Tryd.underlying3 Tryd.underlying23 Tryd.underlying5 sz5_s8 sz23_s8 hp.ch hq.ch rfl rfl (show decide (p.ct = q.ct ∧ p.ch = q.ch) = false by simp [h2])) (fun a hF => ?_)
      refine vc_y hF rfl rfl (by decide) _ (y_pick rfl rfl rfl) (fun a hF => ?_)
      refine vc_y hF rfl rfl (by decide) _ (y_move rfl rfl) (fun a hF => ?_)
      refine vc_skip hF rfl rfl rfl rfl rfl rfl (by decide) (fun a hF => ?_)
      refine vc_skip hF rfl rfl rfl rfl rfl rfl (by decide) (fun a hF => ?_)
      refine vc_skip hF rfl rfl rfl rfl rfl rfl (by decide) (fun a hF => ?_)
      refine vc_skip hF rfl rfl rfl rfl rfl rfl (by decide) (fun a hF => ?_)
      refine vc_skip hF rfl rfl rfl rfl rfl rfl (by decide) (fun a hF => ?_)
      refine vc_y hF rfl rfl (by decide) _ (y_pick rfl rfl rfl) (fun a hF => ?_)
      refine vc_y hF rfl rfl (by decide) _ (y_move rfl rfl) (fun a hF => ?_)
      refine vc_skip hF rfl rfl rfl rfl rfl rfl (by decide) (fun a hF => ?_)
      refine vc_skip hF rfl rfl rfl rfl rfl rfl (by decide) (fun a hF => ?_)
      refine vc_skip hF rfl rfl rfl rfl rfl rfl (by decide) (fun a hF => ?_)
      refine vc_skip hF rfl rfl rfl rfl rfl rfl (by decide) (fun a hF => ?_)
      refine vc_skip hF rfl rfl rfl rfl rfl rfl (by decide) (fun a hF => ?_)
      refine vc_y hF rfl rfl (by decide) _ (y_pick rfl rfl rfl) (fun a hF => ?_)
      refine vc_y hF rfl rfl (by decide) _ (y_assign rfl rfl) (fun a hF => ?_)
      refine vc_nil ?_
      refine hK2 _ _ ?_; clear  hK2 K2
      apply wp_ret
      refine vc_ret1 hF Tryd.results24 rfl ?_
      have hA11 : Hp w0 (R) w5 := Hp.sel [[row b4 28 (q.cells (.slice qA q.ss.length qC))], [row b1 28 (p.cells (.slice sA p.ss.length sC))]] R [] [0, 1] hA6 rfl
      exact ⟨_, rfl, (fun e => absurd (by rw [e]; exact ⟨rfl, rfl⟩) h2), hA11⟩
  · refine wp_region_lit ?_
    refine vc_y hF rfl rfl (by decide) _ (y_field rfl Tryd.underlying28 rfl sz4_s8 (by decide) rfl (rfl : (⟨_, 0 + _, none⟩ : Addr) = ⟨_, 0, none⟩)) (fun a hF => ?_)
    refine vc_y hF rfl rfl (by decide) _ (y_ld rfl hA6.q rfl 1 rfl rfl nr4_s8) (fun a hF => ?_)
    refine vc_y hF rfl rfl (by decide) _ (y_field rfl Tryd.underlying28 rfl sz4_s8 (by decide) rfl (rfl : (⟨_, 0 + _, none⟩ : Addr) = ⟨_, 0, none⟩)) (fun a hF => ?_)
    refine vc_y hF rfl rfl (by decide) _ (y_ld rfl hA6.q rfl 0 rfl rfl nr4_s8) (fun a hF => ?_)
    refine vc_y hF rfl rfl (by decide) _ (y_eqBool rfl Tryd.underlying4 rfl rfl (show (p.pr == q.pr) = false by simp [h1])) (fun a hF => ?_)
    refine vc_y hF rfl rfl (by decide) _ (y_move rfl rfl) (fun a hF => ?_)
    refine vc_skip hF rfl rfl rfl rfl rfl rfl (by decide) (fun a hF => ?_)
    refine vc_skip hF rfl rfl rfl rfl rfl rfl (by decide) (fun a hF => ?_)
    refine vc_skip hF rfl rfl rfl rfl rfl rfl (by decide) (fun a hF => ?_)
    refine vc_skip hF rfl rfl rfl rfl rfl rfl (by decide) (fun a hF => ?_)
    refine vc_skip hF rfl rfl rfl rfl rfl rfl (by decide) (fun a hF => ?_)
    refine vc_y hF rfl rfl (by decide) _ (y_pick rfl rfl rfl) (fun a hF => ?_)
    refine vc_y hF rfl rfl (by decide) _ (y_move rfl rfl) (fun a hF => ?_)
    refine vc_skip hF rfl rfl rfl rfl rfl rfl (by decide) (fun a hF => ?_)
    refine vc_skip hF rfl rfl rfl rfl rfl rfl (by decide) (fun a hF => ?_)
    refine vc_skip hF rfl rfl rfl rfl rfl rfl (by decide) (fun a hF => ?_)
    refine vc_skip hF rfl rfl rfl rfl rfl rfl (by decide) (fun a hF => ?_)
    refine vc_skip hF rfl rfl rfl rfl rfl rfl (by decide) (fun a hF => ?_)
    refine vc_y hF rfl rfl (by decide) _ (y_pick rfl rfl rfl) (fun a hF => ?_)
    refine vc_y hF rfl rfl (by decide) _ (y_move rfl rfl) (fun a hF => ?_)
    refine vc_skip hF rfl rfl rfl rfl rfl rfl (by decide) (fun a hF => ?_)
    refine vc_skip hF rfl rfl rfl rfl rfl rfl (by decide) (fun a hF => ?_)
    refine vc_skip hF rfl rfl rfl rfl rfl rfl (by decide) (fun a hF => ?_)
    refine vc_skip hF rfl rfl rfl rfl rfl rfl (by decide) (fun a hF => ?_)
    refine vc_skip hF rfl rfl rfl rfl rfl rfl (by decide) (fun a hF => ?_)
    refine vc_y hF rfl rfl (by decide) _ (y_pick rfl rfl rfl) (fun a hF => ?_)
    refine vc_y hF rfl rfl (by decide) _ (y_assign rfl rfl) (fun a hF => ?_)
    refine vc_nil ?_
    refine hK2 _ _ ?_; clear  hK2 K2
    apply wp_ret
    refine vc_ret1 hF Tryd.results24 rfl ?_
    have hA12 : Hp w0 (R) w5 := Hp.sel [[row b4 28 (q.cells (.slice qA q.ss.length qC))], [row b1 28 (p.cells (.slice sA p.ss.length sC))]] R [] [0, 1] hA6 rfl
    exact ⟨_, rfl, (fun e => absurd (by rw [e]) h1), hA12⟩

set_option maxRecDepth 100000 in
set_option maxHeartbeats 2000000 in
theorem sp_met (w0 w : World) (R G G2 : List Seg) (hG : G ⊆ R) (hG2 : G2 ⊆ R) (p q : Prf) (sA qA : Option Addr) (sC qC : Nat) (hp : p.OK) (hq : q.OK) (width : Int) (k : List UInt8) (hk : k.length = 32) (hT : Tab w0) (he1 : p.err width = 0) (he2 : q.err width = 0) (hex : ∃ i, i < 257 ∧ p.text width k i ≠ q.text width k i ∧ p.lead width k i = q.lead width k i) (hS : Rc w0 G sA (digV p.ss)) (hS2 : Rc w0 G2 qA (digV q.ss)) (hA : Hp w0 R w) : Calls Tryd.prog 25 #[.int .i64 width, .agg (dc k).toArray, .agg (p.cells (.slice sA p.ss.length sC)).toArray, .agg (q.cells (.slice qA q.ss.length qC)).toArray] w fun e w' => e = .returned (.bool true) ∧ Hp w0 R w' := by
  have hdk : (dc k).length = 32 := by rw [dc_length, hk]
  refine vc_enter Tryd.func25 rfl Tryd.ntmps25 (Nat.le_of_ble_eq_true rfl) (fun a hF => ?_)
  apply wp_seq_k; intro K1 hK1
  refine wp_region_lit ?_
  refine vc_op rfl (fun K hK => hs_box (cs := dc k) hF rfl (by decide) rfl hA rfl (fun b1 w2 a hb1 hF hA3 => hK _ _ ?_))
  clear hK K
  replace hA3 : Hp w0 ([row b1 23 (dc k)] :: R) w2 := hA3
  refine vc_op rfl (fun K hK => hs_box (cs := p.cells (.slice sA p.ss.length sC)) hF rfl (by decide) rfl hA3 rfl (fun b4 w5 a hb4 hF hA6 => hK _ _ ?_))
  clear hK K
  replace hA6 : Hp w0 ([row b4 28 (p.cells (.slice sA p.ss.length sC))] :: [row b1 23 (dc k)] :: R) w5 := hA6
  refine vc_op rfl (fun K hK => hs_box (cs := q.cells (.slice qA q.ss.length qC)) hF rfl (by decide) rfl hA6 rfl (fun b7 w8 a hb7 hF hA9 => hK _ _ ?_))
  clear hK K
  replace hA9 : Hp w0 ([row b7 28 (q.cells (.slice qA q.ss.length qC))] :: [row b4 28 (p.cells (.slice sA p.ss.length sC))] :: [row b1 23 (dc k)] :: R) w8 := hA9
  refine vc_y hF rfl rfl (by decide) _ (y_assign rfl rfl) (fun a hF => ?_)
  refine vc_nil ?_
  refine hK1 _ _ ?_; clear  hK1 K1
  apply wp_seq_k; intro K2 hK2
  refine wp_region_lit ?_
  refine vc_y hF rfl rfl (by decide) _ (y_move rfl rfl) (fun a hF => ?_)
  refine vc_y hF rfl rfl (by decide) _ (y_ldRow (new := dc k) rfl hA9.q rfl 2 rfl rw23_s8 (by rw [hdk]; exact Nat.le_refl _) (by rw [List.drop_zero]; exact List.take_of_length_le (by rw [hdk]; exact Nat.le_refl _))) (fun a hF => ?_)
  refine vc_y hF rfl rfl (by decide) _ (y_ldRow rfl hA9.q rfl 1 rfl rw28_s8 (by rw [Prf.c_len hp]; decide) (Prf.c_all hp)) (fun a hF => ?_)
  refine vc_op rfl (fun K hK => ws_call hF rfl (by decide) cl14_s8 rfl rfl ?_)
  with_reducible refine (sp_climb w0 _ ([row b7 28 (q.cells (.slice qA q.ss.length qC))] :: [row b4 28 (p.cells (.slice sA p.ss.length sC))] :: [row b1 23 (dc k)] :: R) G (List.Subset.trans hG (subC (subC (subC (sub0))))) p sA sC width k hp hk hT hS hA9 ).mono ?_
  rintro e' w10 ⟨ts1, tv1, XL1, rfl, hT1, hA11⟩
  refine ⟨_, rfl, fun a hF => hK _ _ ?_⟩
  clear hK K
  replace hA11 : Hp w0 (XL1 :: (txS ts1) :: [row b7 28 (q.cells (.slice qA q.ss.length qC))] :: [row b4 28 (p.cells (.slice sA p.ss.length sC))] :: [row b1 23 (dc k)] :: R) w10 := hA11
  rw [if_pos he1] at hT1
  refine vc_y hF rfl rfl (by decide) _ (y_move rfl rfl) (fun a hF => ?_)
  refine vc_y hF rfl rfl (by decide) _ (y_extract (v := tv1) rfl rfl rfl) (fun a hF => ?_)
  refine vc_y hF rfl rfl (by decide) _ (y_extract (v := .int .i64 ((p.err width : Nat) : Int)) rfl rfl rfl) (fun a hF => ?_)
  refine vc_y hF rfl rfl (by decide) _ (y_assign rfl rfl) (fun a hF => ?_)
  refine vc_y hF rfl rfl (by decide) _ (y_assign rfl rfl) (fun a hF => ?_)
  refine vc_nil ?_
  refine hK2 _ _ ?_; clear  hK2 K2
  apply wp_seq_k; intro K3 hK3
  refine wp_region_lit ?_
  refine vc_y hF rfl rfl (by decide) _ (y_move rfl rfl) (fun a hF => ?_)
  refine vc_y hF rfl rfl (by decide) _ (y_ldRow (new := dc k) rfl hA11.q rfl 4 rfl rw23_s8 (by rw [hdk]; exact Nat.le_refl _) (by rw [List.drop_zero]; exact List.take_of_length_le (by rw [hdk]; exact Nat.le_refl _))) (fun a hF => ?_)
  refine vc_y hF rfl rfl (by decide) _ (y_ldRow rfl hA11.q rfl 2 rfl rw28_s8 (by rw [Prf.c_len hq]; decide) (Prf.c_all hq)) (fun a hF => ?_)
  refine vc_op rfl (fun K hK => ws_call hF rfl (by decide) cl14_s8 rfl rfl ?_)
  with_reducible refine (sp_climb w0 _ (XL1 :: (txS ts1) :: [row b7 28 (q.cells (.slice qA q.ss.length qC))] :: [row b4 28 (p.cells (.slice sA p.ss.length sC))] :: [row b1 23 (dc k)] :: R) G2 (List.Subset.trans hG2 (subC (subC (subC (subC (subC (sub0))))))) q qA qC width k hq hk hT hS2 hA11 ).mono ?_
  rintro e' w12 ⟨ts2, tv2, XL2, rfl, hT2, hA13⟩
  refine ⟨_, rfl, fun a hF => hK _ _ ?_⟩
  clear hK K
  replace hA13 : Hp w0 (XL2 :: (txS ts2) :: XL1 :: (txS ts1) :: [row b7 28 (q.cells (.slice qA q.ss.length qC))] :: [row b4 28 (p.cells (.slice sA p.ss.length sC))] :: [row b1 23 (dc k)] :: R) w12 := hA13
  rw [if_pos he2] at hT2
  refine vc_y hF rfl rfl (by decide) _ (y_move rfl rfl) (fun a hF => ?_)
  refine vc_y hF rfl rfl (by decide) _ (y_extract (v := tv2) rfl rfl rfl) (fun a hF => ?_)
  refine vc_y hF rfl rfl (by decide) _ (y_extract (v := .int .i64 ((q.err width : Nat) : Int)) rfl rfl rfl) (fun a hF => ?_)
  refine vc_y hF rfl rfl (by decide) _ (y_assign rfl rfl) (fun a hF => ?_)
  refine vc_y hF rfl rfl (by decide) _ (y_assign rfl rfl) (fun a hF => ?_)
  refine vc_nil ?_
  refine hK3 _ _ ?_; clear  hK3 K3
  apply wp_seq_k; intro K4 hK4
  apply wp_seq_k; intro K5 hK5
  have hA14 : Hp w0 (XL1 :: (txS ts1) :: XL2 :: (txS ts2) :: R) w12 := Hp.sel [XL2, (txS ts2), XL1, (txS ts1), [row b7 28 (q.cells (.slice qA q.ss.length qC))], [row b4 28 (p.cells (.slice sA p.ss.length sC))], [row b1 23 (dc k)]] R [2, 3, 0, 1] [6, 5, 4] hA13 rfl
  have hl1 : ts1.length = 257 := by rw [hT1.len, p.texts_len]
  have hl2 : ts2.length = 257 := by rw [hT2.len, q.texts_len]
  have hFn := hF
  obtain ⟨pa, ca, rfl, _, hX⟩ := hT1.lst.rc (w0 := w0) (R := (XL1 :: (txS ts1) :: XL2 :: (txS ts2) :: R)) ((List.mem_cons_self ..))
  obtain ⟨pb, cb, rfl, _, hY⟩ := hT2.lst.rc (w0 := w0) (R := (XL1 :: (txS ts1) :: XL2 :: (txS ts2) :: R)) (List.mem_cons_of_mem _ (List.mem_cons_of_mem _ ((List.mem_cons_self ..))))
  have hF := hFn
  clear hFn
  rw [hl1, hl2] at hF
  have hI1 : ∀ t ∈ ts1, ∃ A c, t.v = .slice A t.l.length c ∧ t.l.length ≤ c ∧ Rd w0 (XL1 :: (txS ts1) :: XL2 :: (txS ts2) :: R) A t.l := hT1.rdR (List.mem_cons_of_mem _ ((List.mem_cons_self ..)))
  have hI2 : ∀ t ∈ ts2, ∃ A c, t.v = .slice A t.l.length c ∧ t.l.length ≤ c ∧ Rd w0 (XL1 :: (txS ts1) :: XL2 :: (txS ts2) :: R) A t.l := hT2.rdR (List.mem_cons_of_mem _ (List.mem_cons_of_mem _ (List.mem_cons_of_mem _ ((List.mem_cons_self ..)))))
  refine wp_region_lit ?_
  refine vc_y hF rfl rfl (by decide) _ (y_move rfl rfl) (fun a hF => ?_)
  refine vc_y hF rfl rfl (by decide) _ (y_cmp rfl rfl rfl rfl (neq_f (by omega))) (fun a hF => ?_)
  refine vc_y hF rfl rfl (by decide) _ (y_move rfl rfl) (fun a hF => ?_)
  refine vc_yg hF rfl rfl rfl rfl rfl (by decide) _ (y_move rfl rfl) (fun a hF => ?_)
  refine vc_yg hF rfl rfl rfl rfl rfl (by decide) _ (y_cmp rfl rfl rfl rfl (neq_f (by omega))) (fun a hF => ?_)
  refine vc_y hF rfl rfl (by decide) _ (y_pick rfl rfl rfl) (fun a hF => ?_)
  refine vc_y hF rfl rfl (by decide) _ (y_move rfl rfl) (fun a hF => ?_)
  refine vc_yg hF rfl rfl rfl rfl rfl (by decide) _ (y_move rfl rfl) (fun a hF => ?_)
  refine vc_yg hF rfl rfl rfl rfl rfl (by decide) _ (y_lenSl rfl Tryd.underlying35 rfl rfl) (fun a hF => ?_)
  refine vc_yg hF rfl rfl rfl rfl rfl (by decide) _ (y_cmp rfl rfl rfl rfl (neq_f (by omega))) (fun a hF => ?_)
  refine vc_y hF rfl rfl (by decide) _ (y_pick rfl rfl rfl) (fun a hF => ?_)
  refine vc_y hF rfl rfl (by decide) _ (y_move rfl rfl) (fun a hF => ?_)
  refine vc_yg hF rfl rfl rfl rfl rfl (by decide) _ (y_move rfl rfl) (fun a hF => ?_)
  refine vc_yg hF rfl rfl rfl rfl rfl (by decide) _ (y_lenSl rfl Tryd.underlying35 rfl rfl) (fun a hF => ?_)
  refine vc_yg hF rfl rfl rfl rfl rfl (by decide) _ (y_cmp rfl rfl rfl rfl (neq_f (by omega))) (fun a hF => ?_)
  refine vc_y hF rfl rfl (by decide) _ (y_pick rfl rfl rfl) (fun a hF => ?_)
  refine vc_nil ?_
  refine hK5 _ _ ?_; clear  hK5 K5
  refine vc_false hF rfl ?_
  apply wp_skip
  refine hK4 _ _ ?_; clear  hK4 K4
  apply wp_seq_k; intro K6 hK6
  apply wp_seq_k; intro K7 hK7
  refine wp_region_lit ?_
  refine vc_y hF rfl rfl (by decide) _ (y_assign rfl rfl) (fun a hF => ?_)
  refine vc_nil ?_
  refine hK7 _ _ ?_; clear  hK7 K7
  apply wp_block
  refine vc_loop (G := Nat) (fun i a x => i ≤ 257 ∧ (∀ j, j < i → ¬ (p.text width k j ≠ q.text width k j ∧ p.lead width k j = q.lead width k j)) ∧ Fr 75 [(13, .int .i64 (i : Int)), (0, .int .i64 width), (9, .slice pa 257 ca), (11, .slice pb 257 cb)] a ∧ Hp w0 (XL1 :: (txS ts1) :: XL2 :: (txS ts2) :: R) x) (fun i => 257 - i) 0 (⟨Nat.zero_le _, (fun j hj => absurd hj (Nat.not_lt_zero _)), hF.keep [13, 0, 9, 11] rfl, hA14⟩) ?_
  clear hF
  rintro i a w16 ⟨hi, hnot, hF, hA15⟩
  apply wp_seq_k; intro K8 hK8
  apply wp_seq_k; intro K9 hK9
  refine wp_region_lit ?_
  refine vc_y hF rfl rfl (by decide) _ (y_move rfl rfl) (fun a hF => ?_)
  refine vc_y hF rfl rfl (by decide) _ (y_cmp rfl rfl rfl rfl rfl) (fun a hF => ?_)
  refine vc_nil ?_
  refine hK9 _ _ ?_; clear  hK9 K9
  by_cases hlt : i < 257
  · refine vc_trueB hF rfl (lss_t (by omega)) ?_
    obtain ⟨t, ht, htl⟩ := txs_at hT1.txt hlt
    obtain ⟨u, hu, hul⟩ := txs_at hT2.txt hlt
    obtain ⟨A1, c1, e1, hc1', h1⟩ := hI1 t (List.mem_of_getElem? ht)
    obtain ⟨A2, c2, e2, hc2', h2⟩ := hI2 u (List.mem_of_getElem? hu)
    have hb1 : t.l.length ≤ 73 := by rw [htl]; exact Prf.text_len hp (Prf.formed_of he1) width hk (by omega)
    have hb2 : u.l.length ≤ 73 := by rw [hul]; exact Prf.text_len hq (Prf.formed_of he2) width hk (by omega)
    obtain ⟨b1, q1, hpa, hc1⟩ := hX.ne (i := i) (by rw [List.length_map]; omega)
    obtain ⟨b2, q2, hpb, hc2⟩ := hY.ne (i := i) (by rw [List.length_map]; omega)
    by_cases htu : t.l = u.l
    · have hsm : p.text width k i = q.text width k i := by rw [← htl, ← hul]; exact htu
      apply wp_skip
      refine hK8 _ _ ?_; clear  hK8 K8
      apply wp_seq_k; intro K10 hK10
      apply wp_block
      apply wp_seq_k; intro K11 hK11
      refine wp_region_plan 26 [8,15,17,22,24,26] [0,1,2,3,4,5,6,7,8,9,10,11,12,13,14,16,18,19,20,21,23,15,17,22,24,25,26] (fun x => Hq w0 (XL1 :: (txS ts1) :: XL2 :: (txS ts2) :: R) x) (by kernel_rfl) (by kernel_rfl) (Hq.drew (Hp.qp [XL1, (txS ts1), XL2, (txS ts2)] R [0, 1, 2, 3] hA15)) ?_
      have hA17 := Hl.drew hA15
      refine vp_y hF rfl rfl rfl rfl (by decide) _ (fun x hx => y_move rfl rfl) (fun a hF => ?_)
      refine vp_y hF rfl rfl rfl rfl (by decide) _ (fun x hx => y_move rfl rfl) (fun a hF => ?_)
      refine vp_y hF rfl rfl rfl rfl (by decide) _ (fun x hx => y_ixSl rfl Tryd.underlying35 sz59_s8 (by exact congrArg (fun A => some (Value.slice A 257 ca)) hpa) rfl i rfl hlt (ad2 _ _ _)) (fun a hF => ?_)
      refine vp_y hF rfl rfl rfl rfl (by decide) _ (fun x hx => y_ldC (u := .slice A1 t.l.length c1) rfl hx rfl hc1 i (by rw [List.length_map]; omega) rfl (by rw [List.getElem?_map, ht, ← e1]; rfl) nr59_s8) (fun a hF => ?_)
      refine vp_y hF rfl rfl rfl rfl (by decide) _ (fun x hx => y_move rfl rfl) (fun a hF => ?_)
      refine vp_y hF rfl rfl rfl rfl (by decide) _ (fun x hx => y_move rfl rfl) (fun a hF => ?_)
      refine vp_y hF rfl rfl rfl rfl (by decide) _ (fun x hx => y_ixSl rfl Tryd.underlying35 sz59_s8 (by exact congrArg (fun A => some (Value.slice A 257 cb)) hpb) rfl i rfl hlt (ad2 _ _ _)) (fun a hF => ?_)
      refine vp_y hF rfl rfl rfl rfl (by decide) _ (fun x hx => y_ldC (u := .slice A2 u.l.length c2) rfl hx rfl hc2 i (by rw [List.length_map]; omega) rfl (by rw [List.getElem?_map, hu, ← e2]; rfl) nr59_s8) (fun a hF => ?_)
      refine vp_l rfl rfl rfl (fun K hK => ws_call hF rfl (by decide) cl27_s8 rfl rfl ?_)
      with_reducible refine (bk_same_bytes w0 _ (XL1 :: (txS ts1) :: XL2 :: (txS ts2) :: R) A1 A2 t.l u.l c1 c2 h1 h2 hA17 (by omega) ).mono ?_
      rintro e' w18 ⟨rfl, hA19⟩
      refine ⟨_, rfl, fun a hF => hK _ _ (fun _ => ?_) ?_⟩
      · exact Hp.qp [XL1, (txS ts1), XL2, (txS ts2)] R [0, 1, 2, 3] hA19
      clear hK K
      replace hA19 : Hp w0 (XL1 :: (txS ts1) :: XL2 :: (txS ts2) :: R) w18 := hA19
      rw [decide_eq_true htu] at hF
      refine vp_y hF rfl rfl rfl rfl (by decide) _ (fun x hx => y_not rfl rfl rfl) (fun a hF => ?_)
      refine vp_y hF rfl rfl rfl rfl (by decide) _ (fun x hx => y_move rfl rfl) (fun a hF => ?_)
      refine vp_skip hF rfl rfl rfl rfl rfl rfl rfl rfl (by decide) (fun a hF => ?_)
      refine vp_skip hF rfl rfl rfl rfl rfl rfl rfl rfl (by decide) (fun a hF => ?_)
      refine vp_skip hF rfl rfl rfl rfl rfl rfl rfl rfl (by decide) (fun a hF => ?_)
      refine vp_skip hF rfl rfl rfl rfl rfl rfl rfl rfl (by decide) (fun a hF => ?_)
      refine vp_skip hF rfl rfl rfl rfl rfl rfl rfl rfl (by decide) (fun a hF => ?_)
      refine vp_skip hF rfl rfl rfl rfl rfl rfl rfl rfl (by decide) (fun a hF => ?_)
      refine vp_skip hF rfl rfl rfl rfl rfl rfl rfl rfl (by decide) (fun a hF => ?_)
      refine vp_skip hF rfl rfl rfl rfl rfl rfl rfl rfl (by decide) (fun a hF => ?_)
      refine vp_skip hF rfl rfl rfl rfl rfl rfl rfl rfl (by decide) (fun a hF => ?_)
      refine vp_skip hF rfl rfl rfl rfl rfl rfl rfl rfl (by decide) (fun a hF => ?_)
      refine vp_skipl hF rfl rfl rfl rfl rfl rfl rfl rfl (by decide) (Hp.qp [XL1, (txS ts1), XL2, (txS ts2)] R [0, 1, 2, 3] hA19) (fun a hF => ?_)
      refine vp_skipl hF rfl rfl rfl rfl rfl rfl rfl rfl (by decide) (Hp.qp [XL1, (txS ts1), XL2, (txS ts2)] R [0, 1, 2, 3] hA19) (fun a hF => ?_)
      refine vp_skipl hF rfl rfl rfl rfl rfl rfl rfl rfl (by decide) (Hp.qp [XL1, (txS ts1), XL2, (txS ts2)] R [0, 1, 2, 3] hA19) (fun a hF => ?_)
      refine vp_skipl hF rfl rfl rfl rfl rfl rfl rfl rfl (by decide) (Hp.qp [XL1, (txS ts1), XL2, (txS ts2)] R [0, 1, 2, 3] hA19) (fun a hF => ?_)
      refine vp_skip hF rfl rfl rfl rfl rfl rfl rfl rfl (by decide) (fun a hF => ?_)
      refine vp_ly hF rfl rfl rfl rfl (by decide) _ (y_pick rfl rfl rfl) (fun h => absurd h (by decide)) (fun a hF => ?_)
      refine plan_end ?_
      refine hK11 _ _ ?_; clear  hK11 K11
      refine vc_false hF rfl ?_
      apply wp_skip
      refine hK10 _ _ ?_; clear  hK10 K10
      refine wp_region_lit ?_
      refine vc_y hF rfl rfl (by decide) _ (y_move rfl rfl) (fun a hF => ?_)
      refine vc_y hF rfl rfl (by decide) _ (y_add rfl rfl rfl (IntWalk.i64_in _ (by omega))) (fun a hF => ?_)
      refine vc_y hF rfl rfl (by decide) _ (y_assign rfl rfl) (fun a hF => ?_)
      refine vc_nil ?_
      exact ⟨i + 1, by omega, by omega, (fun j hj => by rcases Nat.lt_or_ge j i with h3 | h3; exact hnot j h3; obtain rfl : j = i := (by omega); exact fun h => h.1 hsm), hF.keep [13, 0, 9, 11] rfl, hA19⟩
    · have hsm : ¬ p.text width k i = q.text width k i := by rw [← htl, ← hul]; exact htu
      by_cases hld : p.lead width k i = q.lead width k i
      · apply wp_skip
        refine hK8 _ _ ?_; clear  hK8 K8
        apply wp_seq_k; intro K12 hK12
        apply wp_block
        apply wp_seq_k; intro K13 hK13
        refine wp_region_plan 26 [8,15,17,22,24,26] [0,1,2,3,4,5,6,7,8,9,10,11,12,13,14,16,18,19,20,21,23,15,17,22,24,25,26] (fun x => Hq w0 (XL1 :: (txS ts1) :: XL2 :: (txS ts2) :: R) x) (by kernel_rfl) (by kernel_rfl) (Hq.drew (Hp.qp [XL1, (txS ts1), XL2, (txS ts2)] R [0, 1, 2, 3] hA15)) ?_
        have hA20 := Hl.drew hA15
        refine vp_y hF rfl rfl rfl rfl (by decide) _ (fun x hx => y_move rfl rfl) (fun a hF => ?_)
        refine vp_y hF rfl rfl rfl rfl (by decide) _ (fun x hx => y_move rfl rfl) (fun a hF => ?_)
        refine vp_y hF rfl rfl rfl rfl (by decide) _ (fun x hx => y_ixSl rfl Tryd.underlying35 sz59_s8 (by exact congrArg (fun A => some (Value.slice A 257 ca)) hpa) rfl i rfl hlt (ad2 _ _ _)) (fun a hF => ?_)
        refine vp_y hF rfl rfl rfl rfl (by decide) _ (fun x hx => y_ldC (u := .slice A1 t.l.length c1) rfl hx rfl hc1 i (by rw [List.length_map]; omega) rfl (by rw [List.getElem?_map, ht, ← e1]; rfl) nr59_s8) (fun a hF => ?_)
        refine vp_y hF rfl rfl rfl rfl (by decide) _ (fun x hx => y_move rfl rfl) (fun a hF => ?_)
        refine vp_y hF rfl rfl rfl rfl (by decide) _ (fun x hx => y_move rfl rfl) (fun a hF => ?_)
        refine vp_y hF rfl rfl rfl rfl (by decide) _ (fun x hx => y_ixSl rfl Tryd.underlying35 sz59_s8 (by exact congrArg (fun A => some (Value.slice A 257 cb)) hpb) rfl i rfl hlt (ad2 _ _ _)) (fun a hF => ?_)
        refine vp_y hF rfl rfl rfl rfl (by decide) _ (fun x hx => y_ldC (u := .slice A2 u.l.length c2) rfl hx rfl hc2 i (by rw [List.length_map]; omega) rfl (by rw [List.getElem?_map, hu, ← e2]; rfl) nr59_s8) (fun a hF => ?_)
        refine vp_l rfl rfl rfl (fun K hK => ws_call hF rfl (by decide) cl27_s8 rfl rfl ?_)
        with_reducible refine (bk_same_bytes w0 _ (XL1 :: (txS ts1) :: XL2 :: (txS ts2) :: R) A1 A2 t.l u.l c1 c2 h1 h2 hA20 (by omega) ).mono ?_
        rintro e' w21 ⟨rfl, hA22⟩
        refine ⟨_, rfl, fun a hF => hK _ _ (fun _ => ?_) ?_⟩
        · exact Hp.qp [XL1, (txS ts1), XL2, (txS ts2)] R [0, 1, 2, 3] hA22
        clear hK K
        replace hA22 : Hp w0 (XL1 :: (txS ts1) :: XL2 :: (txS ts2) :: R) w21 := hA22
        rw [decide_eq_false htu] at hF
        refine vp_y hF rfl rfl rfl rfl (by decide) _ (fun x hx => y_not rfl rfl rfl) (fun a hF => ?_)
        refine vp_y hF rfl rfl rfl rfl (by decide) _ (fun x hx => y_move rfl rfl) (fun a hF => ?_)
        refine vp_yg hF rfl rfl rfl rfl rfl rfl rfl (by decide) _ (fun x hx => y_move rfl rfl) (fun a hF => ?_)
        refine vp_yg hF rfl rfl rfl rfl rfl rfl rfl (by decide) _ (fun x hx => y_move rfl rfl) (fun a hF => ?_)
        refine vp_yg hF rfl rfl rfl rfl rfl rfl rfl (by decide) _ (fun x hx => y_ixSl rfl Tryd.underlying35 sz59_s8 (by exact congrArg (fun A => some (Value.slice A 257 ca)) hpa) rfl i rfl hlt (ad2 _ _ _)) (fun a hF => ?_)
        refine vp_yg hF rfl rfl rfl rfl rfl rfl rfl (by decide) _ (fun x hx => y_ldC (u := .slice A1 t.l.length c1) rfl hx rfl hc1 i (by rw [List.length_map]; omega) rfl (by rw [List.getElem?_map, ht, ← e1]; rfl) nr59_s8) (fun a hF => ?_)
        refine vp_yg hF rfl rfl rfl rfl rfl rfl rfl (by decide) _ (fun x hx => y_move rfl rfl) (fun a hF => ?_)
        refine vp_yg hF rfl rfl rfl rfl rfl rfl rfl (by decide) _ (fun x hx => y_move rfl rfl) (fun a hF => ?_)
        refine vp_yg hF rfl rfl rfl rfl rfl rfl rfl (by decide) _ (fun x hx => y_move rfl rfl) (fun a hF => ?_)
        refine vp_yg hF rfl rfl rfl rfl rfl rfl rfl (by decide) _ (fun x hx => y_ixSl rfl Tryd.underlying35 sz59_s8 (by exact congrArg (fun A => some (Value.slice A 257 cb)) hpb) rfl i rfl hlt (ad2 _ _ _)) (fun a hF => ?_)
        refine vp_yg hF rfl rfl rfl rfl rfl rfl rfl (by decide) _ (fun x hx => y_ldC (u := .slice A2 u.l.length c2) rfl hx rfl hc2 i (by rw [List.length_map]; omega) rfl (by rw [List.getElem?_map, hu, ← e2]; rfl) nr59_s8) (fun a hF => ?_)
        refine vp_yg hF rfl rfl rfl rfl rfl rfl rfl (by decide) _ (fun x hx => y_move rfl rfl) (fun a hF => ?_)
        refine vp_lg hF rfl rfl rfl rfl rfl rfl (fun K hK => ws_call hF rfl (by decide) cl29_s8 rfl rfl ?_)
        with_reducible refine (sp_sum w0 _ (XL1 :: (txS ts1) :: XL2 :: (txS ts2) :: R) _ sub0 A1 t.l c1 _ rfl h1 hc1' (by omega) hT hA22 ).mono ?_
        rintro e' w23 ⟨rfl, hA24⟩
        refine ⟨_, rfl, fun a hF => hK _ _ (fun _ => ?_) ?_⟩
        · exact Hp.qp [XL1, (txS ts1), XL2, (txS ts2)] R [0, 1, 2, 3] hA24
        clear hK K
        replace hA24 : Hp w0 (XL1 :: (txS ts1) :: XL2 :: (txS ts2) :: R) w23 := hA24
        refine vp_lg hF rfl rfl rfl rfl rfl rfl (fun K hK => ws_call hF rfl (by decide) cl28_s8 rfl rfl ?_)
        with_reducible refine (sp_cut w0 _ (XL1 :: (txS ts1) :: XL2 :: (txS ts2) :: R) (sha t.l) width (sha_length _) hA24 ).mono ?_
        rintro e' w25 ⟨rfl, hA26⟩
        refine ⟨_, rfl, fun a hF => hK _ _ (fun _ => ?_) ?_⟩
        · exact Hp.qp [XL1, (txS ts1), XL2, (txS ts2)] R [0, 1, 2, 3] hA26
        clear hK K
        replace hA26 : Hp w0 (XL1 :: (txS ts1) :: XL2 :: (txS ts2) :: R) w25 := hA26
        rw [show cutL (sha t.l) width = p.lead width k i by rw [htl, ← p.lead_eq]] at hF
        refine vp_lg hF rfl rfl rfl rfl rfl rfl (fun K hK => ws_call hF rfl (by decide) cl29_s8 rfl rfl ?_)
        with_reducible refine (sp_sum w0 _ (XL1 :: (txS ts1) :: XL2 :: (txS ts2) :: R) _ sub0 A2 u.l c2 _ rfl h2 hc2' (by omega) hT hA26 ).mono ?_
        rintro e' w27 ⟨rfl, hA28⟩
        refine ⟨_, rfl, fun a hF => hK _ _ (fun _ => ?_) ?_⟩
        · exact Hp.qp [XL1, (txS ts1), XL2, (txS ts2)] R [0, 1, 2, 3] hA28
        clear hK K
        replace hA28 : Hp w0 (XL1 :: (txS ts1) :: XL2 :: (txS ts2) :: R) w27 := hA28
        refine vp_lg hF rfl rfl rfl rfl rfl rfl (fun K hK => ws_call hF rfl (by decide) cl28_s8 rfl rfl ?_)
        with_reducible refine (sp_cut w0 _ (XL1 :: (txS ts1) :: XL2 :: (txS ts2) :: R) (sha u.l) width (sha_length _) hA28 ).mono ?_
        rintro e' w29 ⟨rfl, hA30⟩
        refine ⟨_, rfl, fun a hF => hK _ _ (fun _ => ?_) ?_⟩
        · exact Hp.qp [XL1, (txS ts1), XL2, (txS ts2)] R [0, 1, 2, 3] hA30
        clear hK K
        replace hA30 : Hp w0 (XL1 :: (txS ts1) :: XL2 :: (txS ts2) :: R) w29 := hA30
        rw [show cutL (sha u.l) width = q.lead width k i by rw [hul, ← q.lead_eq]] at hF
        refine vp_yg hF rfl rfl rfl rfl rfl rfl rfl (by decide) _ (fun x hx => y_eqB rfl Tryd.underlying23 Tryd.underlying5 sz5_s8 (by kernel_rfl) rfl rfl (p.lead_length ..) (q.lead_length ..) (decide_eq_true hld)) (fun a hF => ?_)
        refine vp_ly hF rfl rfl rfl rfl (by decide) _ (y_pick rfl rfl rfl) (fun h => absurd h (by decide)) (fun a hF => ?_)
        refine plan_end ?_
        refine hK13 _ _ ?_; clear  hK13 K13
        refine vc_true hF rfl ?_
        apply wp_seq_k; intro K14 hK14
        refine wp_region_lit ?_
        refine vc_y hF rfl rfl (by decide) _ (y_assign rfl rfl) (fun a hF => ?_)
        refine vc_nil ?_
        refine hK14 _ _ ?_; clear  hK14 K14
        apply wp_ret
        simp only [Exit.then, Exit.inBlock]
        refine vc_ret1 hF Tryd.results25 rfl ?_
        have hA31 : Hp w0 (R) w29 := Hp.sel [XL1, (txS ts1), XL2, (txS ts2)] R [] [0, 1, 2, 3] hA30 rfl
        exact ⟨rfl, hA31⟩
      · apply wp_skip
        refine hK8 _ _ ?_; clear  hK8 K8
        apply wp_seq_k; intro K15 hK15
        apply wp_block
        apply wp_seq_k; intro K16 hK16
        refine wp_region_plan 26 [8,15,17,22,24,26] [0,1,2,3,4,5,6,7,8,9,10,11,12,13,14,16,18,19,20,21,23,15,17,22,24,25,26] (fun x => Hq w0 (XL1 :: (txS ts1) :: XL2 :: (txS ts2) :: R) x) (by kernel_rfl) (by kernel_rfl) (Hq.drew (Hp.qp [XL1, (txS ts1), XL2, (txS ts2)] R [0, 1, 2, 3] hA15)) ?_
        have hA32 := Hl.drew hA15
        refine vp_y hF rfl rfl rfl rfl (by decide) _ (fun x hx => y_move rfl rfl) (fun a hF => ?_)
        refine vp_y hF rfl rfl rfl rfl (by decide) _ (fun x hx => y_move rfl rfl) (fun a hF => ?_)
        refine vp_y hF rfl rfl rfl rfl (by decide) _ (fun x hx => y_ixSl rfl Tryd.underlying35 sz59_s8 (by exact congrArg (fun A => some (Value.slice A 257 ca)) hpa) rfl i rfl hlt (ad2 _ _ _)) (fun a hF => ?_)
        refine vp_y hF rfl rfl rfl rfl (by decide) _ (fun x hx => y_ldC (u := .slice A1 t.l.length c1) rfl hx rfl hc1 i (by rw [List.length_map]; omega) rfl (by rw [List.getElem?_map, ht, ← e1]; rfl) nr59_s8) (fun a hF => ?_)
        refine vp_y hF rfl rfl rfl rfl (by decide) _ (fun x hx => y_move rfl rfl) (fun a hF => ?_)
        refine vp_y hF rfl rfl rfl rfl (by decide) _ (fun x hx => y_move rfl rfl) (fun a hF => ?_)
        refine vp_y hF rfl rfl rfl rfl (by decide) _ (fun x hx => y_ixSl rfl Tryd.underlying35 sz59_s8 (by exact congrArg (fun A => some (Value.slice A 257 cb)) hpb) rfl i rfl hlt (ad2 _ _ _)) (fun a hF => ?_)
        refine vp_y hF rfl rfl rfl rfl (by decide) _ (fun x hx => y_ldC (u := .slice A2 u.l.length c2) rfl hx rfl hc2 i (by rw [List.length_map]; omega) rfl (by rw [List.getElem?_map, hu, ← e2]; rfl) nr59_s8) (fun a hF => ?_)
        refine vp_l rfl rfl rfl (fun K hK => ws_call hF rfl (by decide) cl27_s8 rfl rfl ?_)
        with_reducible refine (bk_same_bytes w0 _ (XL1 :: (txS ts1) :: XL2 :: (txS ts2) :: R) A1 A2 t.l u.l c1 c2 h1 h2 hA32 (by omega) ).mono ?_
        rintro e' w33 ⟨rfl, hA34⟩
        refine ⟨_, rfl, fun a hF => hK _ _ (fun _ => ?_) ?_⟩
        · exact Hp.qp [XL1, (txS ts1), XL2, (txS ts2)] R [0, 1, 2, 3] hA34
        clear hK K
        replace hA34 : Hp w0 (XL1 :: (txS ts1) :: XL2 :: (txS ts2) :: R) w33 := hA34
        rw [decide_eq_false htu] at hF
        refine vp_y hF rfl rfl rfl rfl (by decide) _ (fun x hx => y_not rfl rfl rfl) (fun a hF => ?_)
        refine vp_y hF rfl rfl rfl rfl (by decide) _ (fun x hx => y_move rfl rfl) (fun a hF => ?_)
        refine vp_yg hF rfl rfl rfl rfl rfl rfl rfl (by decide) _ (fun x hx => y_move rfl rfl) (fun a hF => ?_)
        refine vp_yg hF rfl rfl rfl rfl rfl rfl rfl (by decide) _ (fun x hx => y_move rfl rfl) (fun a hF => ?_)
        refine vp_yg hF rfl rfl rfl rfl rfl rfl rfl (by decide) _ (fun x hx => y_ixSl rfl Tryd.underlying35 sz59_s8 (by exact congrArg (fun A => some (Value.slice A 257 ca)) hpa) rfl i rfl hlt (ad2 _ _ _)) (fun a hF => ?_)
        refine vp_yg hF rfl rfl rfl rfl rfl rfl rfl (by decide) _ (fun x hx => y_ldC (u := .slice A1 t.l.length c1) rfl hx rfl hc1 i (by rw [List.length_map]; omega) rfl (by rw [List.getElem?_map, ht, ← e1]; rfl) nr59_s8) (fun a hF => ?_)
        refine vp_yg hF rfl rfl rfl rfl rfl rfl rfl (by decide) _ (fun x hx => y_move rfl rfl) (fun a hF => ?_)
        refine vp_yg hF rfl rfl rfl rfl rfl rfl rfl (by decide) _ (fun x hx => y_move rfl rfl) (fun a hF => ?_)
        refine vp_yg hF rfl rfl rfl rfl rfl rfl rfl (by decide) _ (fun x hx => y_move rfl rfl) (fun a hF => ?_)
        refine vp_yg hF rfl rfl rfl rfl rfl rfl rfl (by decide) _ (fun x hx => y_ixSl rfl Tryd.underlying35 sz59_s8 (by exact congrArg (fun A => some (Value.slice A 257 cb)) hpb) rfl i rfl hlt (ad2 _ _ _)) (fun a hF => ?_)
        refine vp_yg hF rfl rfl rfl rfl rfl rfl rfl (by decide) _ (fun x hx => y_ldC (u := .slice A2 u.l.length c2) rfl hx rfl hc2 i (by rw [List.length_map]; omega) rfl (by rw [List.getElem?_map, hu, ← e2]; rfl) nr59_s8) (fun a hF => ?_)
        refine vp_yg hF rfl rfl rfl rfl rfl rfl rfl (by decide) _ (fun x hx => y_move rfl rfl) (fun a hF => ?_)
        refine vp_lg hF rfl rfl rfl rfl rfl rfl (fun K hK => ws_call hF rfl (by decide) cl29_s8 rfl rfl ?_)
        with_reducible refine (sp_sum w0 _ (XL1 :: (txS ts1) :: XL2 :: (txS ts2) :: R) _ sub0 A1 t.l c1 _ rfl h1 hc1' (by omega) hT hA34 ).mono ?_
        rintro e' w35 ⟨rfl, hA36⟩
        refine ⟨_, rfl, fun a hF => hK _ _ (fun _ => ?_) ?_⟩
        · exact Hp.qp [XL1, (txS ts1), XL2, (txS ts2)] R [0, 1, 2, 3] hA36
        clear hK K
        replace hA36 : Hp w0 (XL1 :: (txS ts1) :: XL2 :: (txS ts2) :: R) w35 := hA36
        refine vp_lg hF rfl rfl rfl rfl rfl rfl (fun K hK => ws_call hF rfl (by decide) cl28_s8 rfl rfl ?_)
        with_reducible refine (sp_cut w0 _ (XL1 :: (txS ts1) :: XL2 :: (txS ts2) :: R) (sha t.l) width (sha_length _) hA36 ).mono ?_
        rintro e' w37 ⟨rfl, hA38⟩
        refine ⟨_, rfl, fun a hF => hK _ _ (fun _ => ?_) ?_⟩
        · exact Hp.qp [XL1, (txS ts1), XL2, (txS ts2)] R [0, 1, 2, 3] hA38
        clear hK K
        replace hA38 : Hp w0 (XL1 :: (txS ts1) :: XL2 :: (txS ts2) :: R) w37 := hA38
        rw [show cutL (sha t.l) width = p.lead width k i by rw [htl, ← p.lead_eq]] at hF
        refine vp_lg hF rfl rfl rfl rfl rfl rfl (fun K hK => ws_call hF rfl (by decide) cl29_s8 rfl rfl ?_)
        with_reducible refine (sp_sum w0 _ (XL1 :: (txS ts1) :: XL2 :: (txS ts2) :: R) _ sub0 A2 u.l c2 _ rfl h2 hc2' (by omega) hT hA38 ).mono ?_
        rintro e' w39 ⟨rfl, hA40⟩
        refine ⟨_, rfl, fun a hF => hK _ _ (fun _ => ?_) ?_⟩
        · exact Hp.qp [XL1, (txS ts1), XL2, (txS ts2)] R [0, 1, 2, 3] hA40
        clear hK K
        replace hA40 : Hp w0 (XL1 :: (txS ts1) :: XL2 :: (txS ts2) :: R) w39 := hA40
        refine vp_lg hF rfl rfl rfl rfl rfl rfl (fun K hK => ws_call hF rfl (by decide) cl28_s8 rfl rfl ?_)
        with_reducible refine (sp_cut w0 _ (XL1 :: (txS ts1) :: XL2 :: (txS ts2) :: R) (sha u.l) width (sha_length _) hA40 ).mono ?_
        rintro e' w41 ⟨rfl, hA42⟩
        refine ⟨_, rfl, fun a hF => hK _ _ (fun _ => ?_) ?_⟩
        · exact Hp.qp [XL1, (txS ts1), XL2, (txS ts2)] R [0, 1, 2, 3] hA42
        clear hK K
        replace hA42 : Hp w0 (XL1 :: (txS ts1) :: XL2 :: (txS ts2) :: R) w41 := hA42
        rw [show cutL (sha u.l) width = q.lead width k i by rw [hul, ← q.lead_eq]] at hF
        refine vp_yg hF rfl rfl rfl rfl rfl rfl rfl (by decide) _ (fun x hx => y_eqB rfl Tryd.underlying23 Tryd.underlying5 sz5_s8 (by kernel_rfl) rfl rfl (p.lead_length ..) (q.lead_length ..) (decide_eq_false hld)) (fun a hF => ?_)
        refine vp_ly hF rfl rfl rfl rfl (by decide) _ (y_pick rfl rfl rfl) (fun h => absurd h (by decide)) (fun a hF => ?_)
        refine plan_end ?_
        refine hK16 _ _ ?_; clear  hK16 K16
        refine vc_false hF rfl ?_
        apply wp_skip
        refine hK15 _ _ ?_; clear  hK15 K15
        refine wp_region_lit ?_
        refine vc_y hF rfl rfl (by decide) _ (y_move rfl rfl) (fun a hF => ?_)
        refine vc_y hF rfl rfl (by decide) _ (y_add rfl rfl rfl (IntWalk.i64_in _ (by omega))) (fun a hF => ?_)
        refine vc_y hF rfl rfl (by decide) _ (y_assign rfl rfl) (fun a hF => ?_)
        refine vc_nil ?_
        exact ⟨i + 1, by omega, by omega, (fun j hj => by rcases Nat.lt_or_ge j i with h3 | h3; exact hnot j h3; obtain rfl : j = i := (by omega); exact fun h => hld h.2), hF.keep [13, 0, 9, 11] rfl, hA42⟩
  · refine vc_falseB hF rfl (lss_f (by omega)) ?_
    obtain ⟨i0, hi0, hn0, hd0⟩ := hex
    exact absurd ⟨hn0, hd0⟩ (hnot i0 (by omega))

set_option maxRecDepth 100000 in
set_option maxHeartbeats 2000000 in
theorem law_twice (w0 : World) (width : Int) (root k : List UInt8) (p q : Prf) (sA qA : Option Addr) (n sC m qC : Nat) (hT : Tab w0) (hr : root.length = 32) (hk : k.length = 32) (hp : p.OK) (hn : n ≤ sC) (hlen : p.ss.length = min n 300) (hS : Rc w0 [] sA (digV p.ss)) (hq : q.OK) (hm : m ≤ qC) (hlenq : q.ss.length = min m 300) (hS2 : Rc w0 [] qA (digV q.ss)) : Calls Tryd.prog 5 #[.int .i64 width, .agg (dc root).toArray, .agg (dc k).toArray, .agg (p.cells (.slice sA n sC)).toArray, .agg (q.cells (.slice qA m qC)).toArray] w0 fun e w' => e = .returned (.bool true) ∧ At w0 [] w' := by
  have hA : Hp w0 [] w0 := Hp.start w0
  have hdk : (dc k).length = 32 := by rw [dc_length, hk]
  have hdr : (dc root).length = 32 := by rw [dc_length, hr]
  refine vc_enter Tryd.func5 rfl Tryd.ntmps5 (Nat.le_of_ble_eq_true rfl) (fun a hF => ?_)
  apply wp_seq_k; intro K1 hK1
  refine wp_region_lit ?_
  refine vc_op rfl (fun K hK => hs_box (cs := dc root) hF rfl (by decide) rfl hA rfl (fun b1 w2 a hb1 hF hA3 => hK _ _ ?_))
  clear hK K
  replace hA3 : Hp w0 ([row b1 23 (dc root)] :: []) w2 := hA3
  refine vc_op rfl (fun K hK => hs_box (cs := dc k) hF rfl (by decide) rfl hA3 rfl (fun b4 w5 a hb4 hF hA6 => hK _ _ ?_))
  clear hK K
  replace hA6 : Hp w0 ([row b4 23 (dc k)] :: [row b1 23 (dc root)] :: []) w5 := hA6
  refine vc_op rfl (fun K hK => hs_box (cs := p.cells (.slice sA n sC)) hF rfl (by decide) rfl hA6 rfl (fun b7 w8 a hb7 hF hA9 => hK _ _ ?_))
  clear hK K
  replace hA9 : Hp w0 ([row b7 28 (p.cells (.slice sA n sC))] :: [row b4 23 (dc k)] :: [row b1 23 (dc root)] :: []) w8 := hA9
  refine vc_op rfl (fun K hK => hs_box (cs := q.cells (.slice qA m qC)) hF rfl (by decide) rfl hA9 rfl (fun b10 w11 a hb10 hF hA12 => hK _ _ ?_))
  clear hK K
  replace hA12 : Hp w0 ([row b10 28 (q.cells (.slice qA m qC))] :: [row b7 28 (p.cells (.slice sA n sC))] :: [row b4 23 (dc k)] :: [row b1 23 (dc root)] :: []) w11 := hA12
  refine vc_y hF rfl rfl (by decide) _ (y_assign rfl rfl) (fun a hF => ?_)
  refine vc_nil ?_
  refine hK1 _ _ ?_; clear  hK1 K1
  apply wp_seq_k; intro K2 hK2
  refine wp_region_lit ?_
  refine vc_y hF rfl rfl (by decide) _ (y_ldRow rfl hA12.q rfl 1 rfl rw28_s8 (by rw [Prf.c_len hp]; decide) (Prf.c_all hp)) (fun a hF => ?_)
  refine vc_op rfl (fun K hK => ws_call hF rfl (by decide) cl9_s8 rfl rfl ?_)
  with_reducible refine (sp_short w0 _ ([row b10 28 (q.cells (.slice qA m qC))] :: [row b7 28 (p.cells (.slice sA n sC))] :: [row b4 23 (dc k)] :: [row b1 23 (dc root)] :: []) p sA n sC hp hn hlen hA12 ).mono ?_
  rintro e' w13 ⟨rfl, hA14⟩
  refine ⟨_, rfl, fun a hF => hK _ _ ?_⟩
  clear hK K
  replace hA14 : Hp w0 ([row b10 28 (q.cells (.slice qA m qC))] :: [row b7 28 (p.cells (.slice sA n sC))] :: [row b4 23 (dc k)] :: [row b1 23 (dc root)] :: []) w13 := hA14
  refine vc_op rfl (fun K hK => hs_storeAll (new := p.cells (.slice sA p.ss.length sC)) hF rfl rfl hA14 rfl rfl 1 rfl (by rw [Prf.c_len hp, Prf.c_len hp]) (Prf.c_one rfl) (by rw [Prf.c_len hp]; exact sz28_s8) (fun w15 hA16 => hK _ _ ?_))
  clear hK K
  replace hA16 : Hp w0 ([row b10 28 (q.cells (.slice qA m qC))] :: [row b7 28 (p.cells (.slice sA p.ss.length sC))] :: [row b4 23 (dc k)] :: [row b1 23 (dc root)] :: []) w15 := hA16
  refine vc_nil ?_
  refine hK2 _ _ ?_; clear  hK2 K2
  apply wp_seq_k; intro K3 hK3
  refine wp_region_lit ?_
  refine vc_y hF rfl rfl (by decide) _ (y_ldRow rfl hA16.q rfl 0 rfl rw28_s8 (by rw [Prf.c_len hq]; decide) (Prf.c_all hq)) (fun a hF => ?_)
  refine vc_op rfl (fun K hK => ws_call hF rfl (by decide) cl9_s8 rfl rfl ?_)
  with_reducible refine (sp_short w0 _ ([row b10 28 (q.cells (.slice qA m qC))] :: [row b7 28 (p.cells (.slice sA p.ss.length sC))] :: [row b4 23 (dc k)] :: [row b1 23 (dc root)] :: []) q qA m qC hq hm hlenq hA16 ).mono ?_
  rintro e' w17 ⟨rfl, hA18⟩
  refine ⟨_, rfl, fun a hF => hK _ _ ?_⟩
  clear hK K
  replace hA18 : Hp w0 ([row b10 28 (q.cells (.slice qA m qC))] :: [row b7 28 (p.cells (.slice sA p.ss.length sC))] :: [row b4 23 (dc k)] :: [row b1 23 (dc root)] :: []) w17 := hA18
  refine vc_op rfl (fun K hK => hs_storeAll (new := q.cells (.slice qA q.ss.length qC)) hF rfl rfl hA18 rfl rfl 0 rfl (by rw [Prf.c_len hq, Prf.c_len hq]) (Prf.c_one rfl) (by rw [Prf.c_len hq]; exact sz28_s8) (fun w19 hA20 => hK _ _ ?_))
  clear hK K
  replace hA20 : Hp w0 ([row b10 28 (q.cells (.slice qA q.ss.length qC))] :: [row b7 28 (p.cells (.slice sA p.ss.length sC))] :: [row b4 23 (dc k)] :: [row b1 23 (dc root)] :: []) w19 := hA20
  refine vc_nil ?_
  refine hK3 _ _ ?_; clear  hK3 K3
  apply wp_seq_k; intro K4 hK4
  apply wp_seq_k; intro K5 hK5
  by_cases hc1 : p.check width root k = 0
  · by_cases hc2 : q.check width root k = 0
    · refine wp_region_lit ?_
      refine vc_y hF rfl rfl (by decide) _ (y_move rfl rfl) (fun a hF => ?_)
      refine vc_y hF rfl rfl (by decide) _ (y_ldRow (new := dc root) rfl hA20.q rfl 3 rfl rw23_s8 (by rw [hdr]; exact Nat.le_refl _) (by rw [List.drop_zero]; exact List.take_of_length_le (by rw [hdr]; exact Nat.le_refl _))) (fun a hF => ?_)
      refine vc_y hF rfl rfl (by decide) _ (y_ldRow (new := dc k) rfl hA20.q rfl 2 rfl rw23_s8 (by rw [hdk]; exact Nat.le_refl _) (by rw [List.drop_zero]; exact List.take_of_length_le (by rw [hdk]; exact Nat.le_refl _))) (fun a hF => ?_)
      refine vc_y hF rfl rfl (by decide) _ (y_ldRow rfl hA20.q rfl 1 rfl rw28_s8 (by rw [Prf.c_len hp]; decide) (Prf.c_all hp)) (fun a hF => ?_)
      refine vc_op rfl (fun K hK => ws_call hF rfl (by decide) cl12_s8 rfl rfl ?_)
      with_reducible refine (sp_check w0 _ ([row b10 28 (q.cells (.slice qA q.ss.length qC))] :: [row b7 28 (p.cells (.slice sA p.ss.length sC))] :: [row b4 23 (dc k)] :: [row b1 23 (dc root)] :: []) [] (List.nil_subset _) p sA sC width root k hp hr hk hT hS hA20 ).mono ?_
      rintro e' w21 ⟨rfl, hA22⟩
      refine ⟨_, rfl, fun a hF => hK _ _ ?_⟩
      clear hK K
      replace hA22 : Hp w0 ([row b10 28 (q.cells (.slice qA q.ss.length qC))] :: [row b7 28 (p.cells (.slice sA p.ss.length sC))] :: [row b4 23 (dc k)] :: [row b1 23 (dc root)] :: []) w21 := hA22
      refine vc_y hF rfl rfl (by decide) _ (y_cmp rfl rfl rfl rfl (neq_f (by omega))) (fun a hF => ?_)
      refine vc_y hF rfl rfl (by decide) _ (y_move rfl rfl) (fun a hF => ?_)
      refine vc_yg hF rfl rfl rfl rfl rfl (by decide) _ (y_move rfl rfl) (fun a hF => ?_)
      refine vc_yg hF rfl rfl rfl rfl rfl (by decide) _ (y_ldRow (new := dc root) rfl hA22.q rfl 3 rfl rw23_s8 (by rw [hdr]; exact Nat.le_refl _) (by rw [List.drop_zero]; exact List.take_of_length_le (by rw [hdr]; exact Nat.le_refl _))) (fun a hF => ?_)
      refine vc_yg hF rfl rfl rfl rfl rfl (by decide) _ (y_ldRow (new := dc k) rfl hA22.q rfl 2 rfl rw23_s8 (by rw [hdk]; exact Nat.le_refl _) (by rw [List.drop_zero]; exact List.take_of_length_le (by rw [hdk]; exact Nat.le_refl _))) (fun a hF => ?_)
      refine vc_yg hF rfl rfl rfl rfl rfl (by decide) _ (y_ldRow rfl hA22.q rfl 0 rfl rw28_s8 (by rw [Prf.c_len hq]; decide) (Prf.c_all hq)) (fun a hF => ?_)
      refine vc_opg hF rfl rfl rfl rfl (fun K hK => ws_call hF rfl (by decide) cl12_s8 rfl rfl ?_)
      with_reducible refine (sp_check w0 _ ([row b10 28 (q.cells (.slice qA q.ss.length qC))] :: [row b7 28 (p.cells (.slice sA p.ss.length sC))] :: [row b4 23 (dc k)] :: [row b1 23 (dc root)] :: []) [] (List.nil_subset _) q qA qC width root k hq hr hk hT hS2 hA22 ).mono ?_
      rintro e' w23 ⟨rfl, hA24⟩
      refine ⟨_, rfl, fun a hF => hK _ _ ?_⟩
      clear hK K
      replace hA24 : Hp w0 ([row b10 28 (q.cells (.slice qA q.ss.length qC))] :: [row b7 28 (p.cells (.slice sA p.ss.length sC))] :: [row b4 23 (dc k)] :: [row b1 23 (dc root)] :: []) w23 := hA24
      refine vc_yg hF rfl rfl rfl rfl rfl (by decide) _ (y_cmp rfl rfl rfl rfl (neq_f (by omega))) (fun a hF => ?_)
      refine vc_y hF rfl rfl (by decide) _ (y_pick rfl rfl rfl) (fun a hF => ?_)
      refine vc_y hF rfl rfl (by decide) _ (y_move rfl rfl) (fun a hF => ?_)
      refine vc_yg hF rfl rfl rfl rfl rfl (by decide) _ (y_ldRow rfl hA24.q rfl 1 rfl rw28_s8 (by rw [Prf.c_len hp]; decide) (Prf.c_all hp)) (fun a hF => ?_)
      refine vc_yg hF rfl rfl rfl rfl rfl (by decide) _ (y_ldRow rfl hA24.q rfl 0 rfl rw28_s8 (by rw [Prf.c_len hq]; decide) (Prf.c_all hq)) (fun a hF => ?_)
      refine vc_opg hF rfl rfl rfl rfl (fun K hK => ws_call hF rfl (by decide) cl24_s8 rfl rfl ?_)
      with_reducible refine (sp_sameProofs w0 _ ([row b10 28 (q.cells (.slice qA q.ss.length qC))] :: [row b7 28 (p.cells (.slice sA p.ss.length sC))] :: [row b4 23 (dc k)] :: [row b1 23 (dc root)] :: []) [] [] (List.nil_subset _) (List.nil_subset _) p q sA qA sC qC hp hq hS hS2 hA24 ).mono ?_
      rintro e' w25 ⟨bs, rfl, hbs, hA26⟩
      refine ⟨_, rfl, fun a hF => hK _ _ ?_⟩
      clear hK K
      replace hA26 : Hp w0 ([row b10 28 (q.cells (.slice qA q.ss.length qC))] :: [row b7 28 (p.cells (.slice sA p.ss.length sC))] :: [row b4 23 (dc k)] :: [row b1 23 (dc root)] :: []) w25 := hA26
      refine vc_y hF rfl rfl (by decide) _ (y_pick rfl rfl rfl) (fun a hF => ?_)
      refine vc_nil ?_
      refine hK5 _ _ ?_; clear  hK5 K5
      by_cases hb : bs = true
      · refine vc_trueB hF rfl hb ?_
        apply wp_seq_k; intro K6 hK6
        refine wp_region_lit ?_
        refine vc_y hF rfl rfl (by decide) _ (y_assign rfl rfl) (fun a hF => ?_)
        refine vc_nil ?_
        refine hK6 _ _ ?_; clear  hK6 K6
        apply wp_ret
        simp only [Exit.then]
        refine vc_ret1 hF Tryd.results5 rfl ?_
        exact ⟨rfl, hA26.at0⟩
      · have hbf : bs = false := by simpa using hb
        have hne : ¬ p = q := fun e => hb (hbs e)
        obtain ⟨hfp, hbp, hlp⟩ := Prf.check_zero hc1
        obtain ⟨hfq, hbq, hlq⟩ := Prf.check_zero hc2
        have he1 : p.err width = 0 := Prf.err_ok hfp hbp
        have he2 : q.err width = 0 := Prf.err_ok hfq hbq
        have hex : ∃ i, i < 257 ∧ p.text width k i ≠ q.text width k i ∧ p.lead width k i = q.lead width k i := Classical.byContradiction fun hno =>
          hne (tw_same hp hq hc1 hc2 hk (fun i hi hd => Classical.byContradiction fun ht => hno ⟨i, hi, ht, hd⟩))
        refine vc_falseB hF rfl hbf ?_
        apply wp_skip
        refine hK4 _ _ ?_; clear  hK4 K4
        apply wp_seq_k; intro K7 hK7
        apply wp_seq_k; intro K8 hK8
        refine wp_region_lit ?_
        refine vc_y hF rfl rfl (by decide) _ (y_move rfl rfl) (fun a hF => ?_)
        refine vc_y hF rfl rfl (by decide) _ (y_ldRow (new := dc k) rfl hA26.q rfl 2 rfl rw23_s8 (by rw [hdk]; exact Nat.le_refl _) (by rw [List.drop_zero]; exact List.take_of_length_le (by rw [hdk]; exact Nat.le_refl _))) (fun a hF => ?_)
        refine vc_y hF rfl rfl (by decide) _ (y_ldRow rfl hA26.q rfl 1 rfl rw28_s8 (by rw [Prf.c_len hp]; decide) (Prf.c_all hp)) (fun a hF => ?_)
        refine vc_y hF rfl rfl (by decide) _ (y_ldRow rfl hA26.q rfl 0 rfl rw28_s8 (by rw [Prf.c_len hq]; decide) (Prf.c_all hq)) (fun a hF => ?_)
        refine vc_op rfl (fun K hK => ws_call hF rfl (by decide) cl25_s8 rfl rfl ?_)
        with_reducible refine (sp_met w0 _ ([row b10 28 (q.cells (.slice qA q.ss.length qC))] :: [row b7 28 (p.cells (.slice sA p.ss.length sC))] :: [row b4 23 (dc k)] :: [row b1 23 (dc root)] :: []) [] [] (List.nil_subset _) (List.nil_subset _) p q sA qA sC qC hp hq width k hk hT he1 he2 hex hS hS2 hA26 ).mono ?_
        rintro e' w27 ⟨rfl, hA28⟩
        refine ⟨_, rfl, fun a hF => hK _ _ ?_⟩
        clear hK K
        replace hA28 : Hp w0 ([row b10 28 (q.cells (.slice qA q.ss.length qC))] :: [row b7 28 (p.cells (.slice sA p.ss.length sC))] :: [row b4 23 (dc k)] :: [row b1 23 (dc root)] :: []) w27 := hA28
        refine vc_y hF rfl rfl (by decide) _ (y_not rfl rfl rfl) (fun a hF => ?_)
        refine vc_nil ?_
        refine hK8 _ _ ?_; clear  hK8 K8
        refine vc_false hF rfl ?_
        apply wp_skip
        refine hK7 _ _ ?_; clear  hK7 K7
        apply wp_seq_k; intro K9 hK9
        refine wp_region_lit ?_
        refine vc_y hF rfl rfl (by decide) _ (y_move rfl rfl) (fun a hF => ?_)
        refine vc_y hF rfl rfl (by decide) _ (y_ldRow (new := dc k) rfl hA28.q rfl 2 rfl rw23_s8 (by rw [hdk]; exact Nat.le_refl _) (by rw [List.drop_zero]; exact List.take_of_length_le (by rw [hdk]; exact Nat.le_refl _))) (fun a hF => ?_)
        refine vc_y hF rfl rfl (by decide) _ (y_ldRow rfl hA28.q rfl 1 rfl rw28_s8 (by rw [Prf.c_len hp]; decide) (Prf.c_all hp)) (fun a hF => ?_)
        refine vc_op rfl (fun K hK => ws_call hF rfl (by decide) cl14_s8 rfl rfl ?_)
        with_reducible refine (sp_climb w0 _ ([row b10 28 (q.cells (.slice qA q.ss.length qC))] :: [row b7 28 (p.cells (.slice sA p.ss.length sC))] :: [row b4 23 (dc k)] :: [row b1 23 (dc root)] :: []) [] (List.nil_subset _) p sA sC width k hp hk hT hS hA28 ).mono ?_
        rintro e' w29 ⟨ts1, tv1, XL1, rfl, hT1, hA30⟩
        refine ⟨_, rfl, fun a hF => hK _ _ ?_⟩
        clear hK K
        replace hA30 : Hp w0 (XL1 :: (txS ts1) :: [row b10 28 (q.cells (.slice qA q.ss.length qC))] :: [row b7 28 (p.cells (.slice sA p.ss.length sC))] :: [row b4 23 (dc k)] :: [row b1 23 (dc root)] :: []) w29 := hA30
        rw [if_pos he1] at hT1
        refine vc_y hF rfl rfl (by decide) _ (y_move rfl rfl) (fun a hF => ?_)
        refine vc_y hF rfl rfl (by decide) _ (y_extract (v := tv1) rfl rfl rfl) (fun a hF => ?_)
        refine vc_y hF rfl rfl (by decide) _ (y_extract (v := .int .i64 ((p.err width : Nat) : Int)) rfl rfl rfl) (fun a hF => ?_)
        refine vc_y hF rfl rfl (by decide) _ (y_assign rfl rfl) (fun a hF => ?_)
        refine vc_y hF rfl rfl (by decide) _ (y_assign rfl rfl) (fun a hF => ?_)
        refine vc_nil ?_
        refine hK9 _ _ ?_; clear  hK9 K9
        apply wp_seq_k; intro K10 hK10
        refine wp_region_lit ?_
        refine vc_y hF rfl rfl (by decide) _ (y_move rfl rfl) (fun a hF => ?_)
        refine vc_y hF rfl rfl (by decide) _ (y_ldRow (new := dc k) rfl hA30.q rfl 4 rfl rw23_s8 (by rw [hdk]; exact Nat.le_refl _) (by rw [List.drop_zero]; exact List.take_of_length_le (by rw [hdk]; exact Nat.le_refl _))) (fun a hF => ?_)
        refine vc_y hF rfl rfl (by decide) _ (y_ldRow rfl hA30.q rfl 2 rfl rw28_s8 (by rw [Prf.c_len hq]; decide) (Prf.c_all hq)) (fun a hF => ?_)
        refine vc_op rfl (fun K hK => ws_call hF rfl (by decide) cl14_s8 rfl rfl ?_)
        with_reducible refine (sp_climb w0 _ (XL1 :: (txS ts1) :: [row b10 28 (q.cells (.slice qA q.ss.length qC))] :: [row b7 28 (p.cells (.slice sA p.ss.length sC))] :: [row b4 23 (dc k)] :: [row b1 23 (dc root)] :: []) [] (List.nil_subset _) q qA qC width k hq hk hT hS2 hA30 ).mono ?_
        rintro e' w31 ⟨ts2, tv2, XL2, rfl, hT2, hA32⟩
        refine ⟨_, rfl, fun a hF => hK _ _ ?_⟩
        clear hK K
        replace hA32 : Hp w0 (XL2 :: (txS ts2) :: XL1 :: (txS ts1) :: [row b10 28 (q.cells (.slice qA q.ss.length qC))] :: [row b7 28 (p.cells (.slice sA p.ss.length sC))] :: [row b4 23 (dc k)] :: [row b1 23 (dc root)] :: []) w31 := hA32
        rw [if_pos he2] at hT2
        refine vc_y hF rfl rfl (by decide) _ (y_move rfl rfl) (fun a hF => ?_)
        refine vc_y hF rfl rfl (by decide) _ (y_extract (v := tv2) rfl rfl rfl) (fun a hF => ?_)
        refine vc_y hF rfl rfl (by decide) _ (y_extract (v := .int .i64 ((q.err width : Nat) : Int)) rfl rfl rfl) (fun a hF => ?_)
        refine vc_y hF rfl rfl (by decide) _ (y_assign rfl rfl) (fun a hF => ?_)
        refine vc_y hF rfl rfl (by decide) _ (y_assign rfl rfl) (fun a hF => ?_)
        refine vc_nil ?_
        refine hK10 _ _ ?_; clear  hK10 K10
        apply wp_seq_k; intro K11 hK11
        have hl1 : ts1.length = 257 := by rw [hT1.len, p.texts_len]
        have hl2 : ts2.length = 257 := by rw [hT2.len, q.texts_len]
        have hFn := hF
        obtain ⟨pb, cb, rfl, _, hY⟩ := hT2.lst.rc (w0 := w0) (R := (XL2 :: (txS ts2) :: XL1 :: (txS ts1) :: [row b10 28 (q.cells (.slice qA q.ss.length qC))] :: [row b7 28 (p.cells (.slice sA p.ss.length sC))] :: [row b4 23 (dc k)] :: [row b1 23 (dc root)] :: [])) ((List.mem_cons_self ..))
        have hF := hFn
        clear hFn
        have hv2 : ∀ v ∈ ts2.map (·.v), v.oneCell' = true := fun v hv => by
          obtain ⟨t, ht, rfl⟩ := List.mem_map.1 hv
          exact (hT2.bufs t ht).one
        refine wp_region_lit ?_
        refine vc_y hF rfl rfl (by decide) _ (y_move rfl rfl) (fun a hF => ?_)
        refine vc_y hF rfl rfl (by decide) _ (y_move rfl rfl) (fun a hF => ?_)
        refine vc_y hF rfl rfl (by decide) _ (y_move rfl rfl) (fun a hF => ?_)
        refine vc_op rfl (fun K hK => hs_append hF rfl (by decide) rfl hA32 2 rfl hT1.lst Tryd.underlying35 sp_elemT rfl rfl (Rc.srcC (W := ts2.map (·.v)) (m := ts2.length) (size := 1) (R := XL2 :: (txS ts2) :: XL1 :: (txS ts1) :: [row b10 28 (q.cells (.slice qA q.ss.length qC))] :: [row b7 28 (p.cells (.slice sA p.ss.length sC))] :: [row b4 23 (dc k)] :: [row b1 23 (dc root)] :: []) hY hA32.q Tryd.underlying35 (by decide) (by rw [List.length_map, Nat.mul_one]) hv2) (by omega) (by decide) (fun tv3 XL3 w33 a hL3 hF hA34 => hK _ _ ?_))
        clear hK K
        replace hA34 : Hp w0 (XL2 :: (txS ts2) :: XL3 :: (txS ts1) :: [row b10 28 (q.cells (.slice qA q.ss.length qC))] :: [row b7 28 (p.cells (.slice sA p.ss.length sC))] :: [row b4 23 (dc k)] :: [row b1 23 (dc root)] :: []) w33 := hA34
        have hFn := hF
        obtain ⟨pc, cc, rfl, _, hZ⟩ := hL3.rc (w0 := w0) (R := (XL2 :: (txS ts2) :: XL3 :: (txS ts1) :: [row b10 28 (q.cells (.slice qA q.ss.length qC))] :: [row b7 28 (p.cells (.slice sA p.ss.length sC))] :: [row b4 23 (dc k)] :: [row b1 23 (dc root)] :: [])) (List.mem_cons_of_mem _ (List.mem_cons_of_mem _ ((List.mem_cons_self ..))))
        have hF := hFn
        clear hFn
        obtain ⟨ps, hps1, hps2, hps3⟩ := txs_pieces (w0 := w0) (R := (XL2 :: (txS ts2) :: XL3 :: (txS ts1) :: [row b10 28 (q.cells (.slice qA q.ss.length qC))] :: [row b7 28 (p.cells (.slice sA p.ss.length sC))] :: [row b4 23 (dc k)] :: [row b1 23 (dc root)] :: [])) (ts1 ++ ts2) (fun t ht => by
          rcases List.mem_append.1 ht with ht | ht
          · exact hT1.rdR (List.mem_cons_of_mem _ (List.mem_cons_of_mem _ (List.mem_cons_of_mem _ ((List.mem_cons_self ..))))) t ht
          · exact hT2.rdR (List.mem_cons_of_mem _ ((List.mem_cons_self ..))) t ht)
        rw [← List.map_append, ← hps1] at hZ
        have hpn : ps.length = ts1.length + ts2.length := by have h1 := congrArg List.length hps1; rw [List.length_map, List.length_map, List.length_append] at h1; exact h1
        have hpt : ps.map (·.2.2) = p.texts width k 257 ++ q.texts width k 257 := by rw [hps2, List.map_append, hT1.txt, hT2.txt]
        have hpl : ∀ r ∈ ps, r.2.2.length < 140737488354000 := fun r hr => by
          have h1 : r.2.2 ∈ p.texts width k 257 ++ q.texts width k 257 := by rw [← hpt]; exact List.mem_map_of_mem hr
          have h2 : r.2.2.length ≤ 73 := by
            rcases List.mem_append.1 h1 with h1 | h1
            · obtain ⟨i, hi, e⟩ := List.mem_map.1 h1
              rw [← e]; exact Prf.text_len hp hfp width hk (by have := List.mem_range.1 hi; omega)
            · obtain ⟨i, hi, e⟩ := List.mem_map.1 h1
              rw [← e]; exact Prf.text_len hq hfq width hk (by have := List.mem_range.1 hi; omega)
          omega
        have hPS : PcS w0 (XL2 :: (txS ts2) :: XL3 :: (txS ts1) :: [row b10 28 (q.cells (.slice qA q.ss.length qC))] :: [row b7 28 (p.cells (.slice sA p.ss.length sC))] :: [row b4 23 (dc k)] :: [row b1 23 (dc root)] :: []) pc ps := ⟨hZ, hps3⟩
        refine vc_op rfl (fun K hK => ws_call hF rfl (by decide) cl26_s8 rfl rfl ?_)
        with_reducible refine (cs_clash w0 _ (XL2 :: (txS ts2) :: XL3 :: (txS ts1) :: [row b10 28 (q.cells (.slice qA q.ss.length qC))] :: [row b7 28 (p.cells (.slice sA p.ss.length sC))] :: [row b4 23 (dc k)] :: [row b1 23 (dc root)] :: []) width pc ps cc _ hpn.symm hT hPS hpl (by omega) hA34 ).mono ?_
        rintro e' w35 ⟨v1, v2, bc, x1, x2, Z1, Z2, rfl, hcr, hZ1, hZ2, hxl, hA36⟩
        refine ⟨_, rfl, fun a hF => hK _ _ ?_⟩
        clear hK K
        replace hA36 : Hp w0 (Z2 :: Z1 :: XL2 :: (txS ts2) :: XL3 :: (txS ts1) :: [row b10 28 (q.cells (.slice qA q.ss.length qC))] :: [row b7 28 (p.cells (.slice sA p.ss.length sC))] :: [row b4 23 (dc k)] :: [row b1 23 (dc root)] :: []) w35 := hA36
        rw [hpt] at hcr
        obtain ⟨rfl, hxn, hxc⟩ := clash_two hex hcr
        have hFn := hF
        obtain ⟨_, B1, d1, rfl, hd1, hR1⟩ := hZ1.rd (w0 := w0) (R := [Z1]) (List.mem_cons_self ..)
        obtain ⟨_, B2, d2, rfl, hd2, hR2⟩ := hZ2.rd (w0 := w0) (R := [Z2]) (List.mem_cons_self ..)
        have hF := hFn
        refine vc_y hF rfl rfl (by decide) _ (y_move rfl rfl) (fun a hF => ?_)
        refine vc_y hF rfl rfl (by decide) _ (y_extract (v := .slice B1 x1.length d1) rfl rfl rfl) (fun a hF => ?_)
        refine vc_y hF rfl rfl (by decide) _ (y_extract (v := .slice B2 x2.length d2) rfl rfl rfl) (fun a hF => ?_)
        refine vc_y hF rfl rfl (by decide) _ (y_extract (v := .bool true) rfl rfl rfl) (fun a hF => ?_)
        refine vc_y hF rfl rfl (by decide) _ (y_assign rfl rfl) (fun a hF => ?_)
        refine vc_y hF rfl rfl (by decide) _ (y_assign rfl rfl) (fun a hF => ?_)
        refine vc_y hF rfl rfl (by decide) _ (y_assign rfl rfl) (fun a hF => ?_)
        refine vc_nil ?_
        refine hK11 _ _ ?_; clear  hK11 K11
        apply wp_seq_k; intro K12 hK12
        refine wp_region_lit ?_
        refine vc_y hF rfl rfl (by decide) _ (y_move rfl rfl) (fun a hF => ?_)
        refine vc_y hF rfl rfl (by decide) _ (y_move rfl rfl) (fun a hF => ?_)
        refine vc_yg hF rfl rfl rfl rfl rfl (by decide) _ (y_move rfl rfl) (fun a hF => ?_)
        refine vc_yg hF rfl rfl rfl rfl rfl (by decide) _ (y_move rfl rfl) (fun a hF => ?_)
        refine vc_opg hF rfl rfl rfl rfl (fun K hK => ws_call hF rfl (by decide) cl27_s8 rfl rfl ?_)
        with_reducible refine (bk_same_bytes w0 _ (Z2 :: Z1 :: XL2 :: (txS ts2) :: XL3 :: (txS ts1) :: [row b10 28 (q.cells (.slice qA q.ss.length qC))] :: [row b7 28 (p.cells (.slice sA p.ss.length sC))] :: [row b4 23 (dc k)] :: [row b1 23 (dc root)] :: []) B1 B2 x1 x2 d1 d2 (hR1.mono (sub1 (List.mem_cons_of_mem _ ((List.mem_cons_self ..))))) (hR2.mono (sub1 ((List.mem_cons_self ..)))) hA36 (by omega) ).mono ?_
        rintro e' w37 ⟨rfl, hA38⟩
        refine ⟨_, rfl, fun a hF => hK _ _ ?_⟩
        clear hK K
        replace hA38 : Hp w0 (Z2 :: Z1 :: XL2 :: (txS ts2) :: XL3 :: (txS ts1) :: [row b10 28 (q.cells (.slice qA q.ss.length qC))] :: [row b7 28 (p.cells (.slice sA p.ss.length sC))] :: [row b4 23 (dc k)] :: [row b1 23 (dc root)] :: []) w37 := hA38
        rw [decide_eq_false hxn] at hF
        refine vc_yg hF rfl rfl rfl rfl rfl (by decide) _ (y_not rfl rfl rfl) (fun a hF => ?_)
        refine vc_y hF rfl rfl (by decide) _ (y_pick rfl rfl rfl) (fun a hF => ?_)
        refine vc_y hF rfl rfl (by decide) _ (y_move rfl rfl) (fun a hF => ?_)
        refine vc_yg hF rfl rfl rfl rfl rfl (by decide) _ (y_move rfl rfl) (fun a hF => ?_)
        refine vc_opg hF rfl rfl rfl rfl (fun K hK => ws_call hF rfl (by decide) cl29_s8 rfl rfl ?_)
        with_reducible refine (sp_sumB w0 _ (Z2 :: Z1 :: XL2 :: (txS ts2) :: XL3 :: (txS ts1) :: [row b10 28 (q.cells (.slice qA q.ss.length qC))] :: [row b7 28 (p.cells (.slice sA p.ss.length sC))] :: [row b4 23 (dc k)] :: [row b1 23 (dc root)] :: []) [Z1] (sub1 (List.mem_cons_of_mem _ ((List.mem_cons_self ..)))) B1 x1 d1 _ rfl hR1 hd1 (by omega) hT hA38 ).mono ?_
        rintro e' w39 ⟨rfl, hA40⟩
        refine ⟨_, rfl, fun a hF => hK _ _ ?_⟩
        clear hK K
        replace hA40 : Hp w0 (Z2 :: Z1 :: XL2 :: (txS ts2) :: XL3 :: (txS ts1) :: [row b10 28 (q.cells (.slice qA q.ss.length qC))] :: [row b7 28 (p.cells (.slice sA p.ss.length sC))] :: [row b4 23 (dc k)] :: [row b1 23 (dc root)] :: []) w39 := hA40
        refine vc_yg hF rfl rfl rfl rfl rfl (by decide) _ (y_move rfl rfl) (fun a hF => ?_)
        refine vc_opg hF rfl rfl rfl rfl (fun K hK => ws_call hF rfl (by decide) cl28_s8 rfl rfl ?_)
        with_reducible refine (sp_cut w0 _ (Z2 :: Z1 :: XL2 :: (txS ts2) :: XL3 :: (txS ts1) :: [row b10 28 (q.cells (.slice qA q.ss.length qC))] :: [row b7 28 (p.cells (.slice sA p.ss.length sC))] :: [row b4 23 (dc k)] :: [row b1 23 (dc root)] :: []) (sha x1) width (sha_length _) hA40 ).mono ?_
        rintro e' w41 ⟨rfl, hA42⟩
        refine ⟨_, rfl, fun a hF => hK _ _ ?_⟩
        clear hK K
        replace hA42 : Hp w0 (Z2 :: Z1 :: XL2 :: (txS ts2) :: XL3 :: (txS ts1) :: [row b10 28 (q.cells (.slice qA q.ss.length qC))] :: [row b7 28 (p.cells (.slice sA p.ss.length sC))] :: [row b4 23 (dc k)] :: [row b1 23 (dc root)] :: []) w41 := hA42
        refine vc_yg hF rfl rfl rfl rfl rfl (by decide) _ (y_move rfl rfl) (fun a hF => ?_)
        refine vc_opg hF rfl rfl rfl rfl (fun K hK => ws_call hF rfl (by decide) cl29_s8 rfl rfl ?_)
        with_reducible refine (sp_sumB w0 _ (Z2 :: Z1 :: XL2 :: (txS ts2) :: XL3 :: (txS ts1) :: [row b10 28 (q.cells (.slice qA q.ss.length qC))] :: [row b7 28 (p.cells (.slice sA p.ss.length sC))] :: [row b4 23 (dc k)] :: [row b1 23 (dc root)] :: []) [Z2] (sub1 ((List.mem_cons_self ..))) B2 x2 d2 _ rfl hR2 hd2 (by omega) hT hA42 ).mono ?_
        rintro e' w43 ⟨rfl, hA44⟩
        refine ⟨_, rfl, fun a hF => hK _ _ ?_⟩
        clear hK K
        replace hA44 : Hp w0 (Z2 :: Z1 :: XL2 :: (txS ts2) :: XL3 :: (txS ts1) :: [row b10 28 (q.cells (.slice qA q.ss.length qC))] :: [row b7 28 (p.cells (.slice sA p.ss.length sC))] :: [row b4 23 (dc k)] :: [row b1 23 (dc root)] :: []) w43 := hA44
        refine vc_yg hF rfl rfl rfl rfl rfl (by decide) _ (y_move rfl rfl) (fun a hF => ?_)
        refine vc_opg hF rfl rfl rfl rfl (fun K hK => ws_call hF rfl (by decide) cl28_s8 rfl rfl ?_)
        with_reducible refine (sp_cut w0 _ (Z2 :: Z1 :: XL2 :: (txS ts2) :: XL3 :: (txS ts1) :: [row b10 28 (q.cells (.slice qA q.ss.length qC))] :: [row b7 28 (p.cells (.slice sA p.ss.length sC))] :: [row b4 23 (dc k)] :: [row b1 23 (dc root)] :: []) (sha x2) width (sha_length _) hA44 ).mono ?_
        rintro e' w45 ⟨rfl, hA46⟩
        refine ⟨_, rfl, fun a hF => hK _ _ ?_⟩
        clear hK K
        replace hA46 : Hp w0 (Z2 :: Z1 :: XL2 :: (txS ts2) :: XL3 :: (txS ts1) :: [row b10 28 (q.cells (.slice qA q.ss.length qC))] :: [row b7 28 (p.cells (.slice sA p.ss.length sC))] :: [row b4 23 (dc k)] :: [row b1 23 (dc root)] :: []) w45 := hA46
        refine vc_yg hF rfl rfl rfl rfl rfl (by decide) _ (y_eqB rfl Tryd.underlying23 Tryd.underlying5 sz5_s8 (by kernel_rfl) rfl rfl (cutL_length _ _ (sha_length _)) (cutL_length _ _ (sha_length _)) (decide_eq_true hxc)) (fun a hF => ?_)
        refine vc_y hF rfl rfl (by decide) _ (y_pick rfl rfl rfl) (fun a hF => ?_)
        refine vc_y hF rfl rfl (by decide) _ (y_assign rfl rfl) (fun a hF => ?_)
        refine vc_nil ?_
        refine hK12 _ _ ?_; clear  hK12 K12
        apply wp_ret
        refine vc_ret1 hF Tryd.results5 rfl ?_
        exact ⟨rfl, hA46.at0⟩
    · refine wp_region_lit ?_
      refine vc_y hF rfl rfl (by decide) _ (y_move rfl rfl) (fun a hF => ?_)
      refine vc_y hF rfl rfl (by decide) _ (y_ldRow (new := dc root) rfl hA20.q rfl 3 rfl rw23_s8 (by rw [hdr]; exact Nat.le_refl _) (by rw [List.drop_zero]; exact List.take_of_length_le (by rw [hdr]; exact Nat.le_refl _))) (fun a hF => ?_)
      refine vc_y hF rfl rfl (by decide) _ (y_ldRow (new := dc k) rfl hA20.q rfl 2 rfl rw23_s8 (by rw [hdk]; exact Nat.le_refl _) (by rw [List.drop_zero]; exact List.take_of_length_le (by rw [hdk]; exact Nat.le_refl _))) (fun a hF => ?_)
      refine vc_y hF rfl rfl (by decide) _ (y_ldRow rfl hA20.q rfl 1 rfl rw28_s8 (by rw [Prf.c_len hp]; decide) (Prf.c_all hp)) (fun a hF => ?_)
      refine vc_op rfl (fun K hK => ws_call hF rfl (by decide) cl12_s8 rfl rfl ?_)
      with_reducible refine (sp_check w0 _ ([row b10 28 (q.cells (.slice qA q.ss.length qC))] :: [row b7 28 (p.cells (.slice sA p.ss.length sC))] :: [row b4 23 (dc k)] :: [row b1 23 (dc root)] :: []) [] (List.nil_subset _) p sA sC width root k hp hr hk hT hS hA20 ).mono ?_
      rintro e' w47 ⟨rfl, hA48⟩
      refine ⟨_, rfl, fun a hF => hK _ _ ?_⟩
      clear hK K
      replace hA48 : Hp w0 ([row b10 28 (q.cells (.slice qA q.ss.length qC))] :: [row b7 28 (p.cells (.slice sA p.ss.length sC))] :: [row b4 23 (dc k)] :: [row b1 23 (dc root)] :: []) w47 := hA48
      refine vc_y hF rfl rfl (by decide) _ (y_cmp rfl rfl rfl rfl (neq_f (by omega))) (fun a hF => ?_)
      refine vc_y hF rfl rfl (by decide) _ (y_move rfl rfl) (fun a hF => ?_)
      refine vc_yg hF rfl rfl rfl rfl rfl (by decide) _ (y_move rfl rfl) (fun a hF => ?_)
      refine vc_yg hF rfl rfl rfl rfl rfl (by decide) _ (y_ldRow (new := dc root) rfl hA48.q rfl 3 rfl rw23_s8 (by rw [hdr]; exact Nat.le_refl _) (by rw [List.drop_zero]; exact List.take_of_length_le (by rw [hdr]; exact Nat.le_refl _))) (fun a hF => ?_)
      refine vc_yg hF rfl rfl rfl rfl rfl (by decide) _ (y_ldRow (new := dc k) rfl hA48.q rfl 2 rfl rw23_s8 (by rw [hdk]; exact Nat.le_refl _) (by rw [List.drop_zero]; exact List.take_of_length_le (by rw [hdk]; exact Nat.le_refl _))) (fun a hF => ?_)
      refine vc_yg hF rfl rfl rfl rfl rfl (by decide) _ (y_ldRow rfl hA48.q rfl 0 rfl rw28_s8 (by rw [Prf.c_len hq]; decide) (Prf.c_all hq)) (fun a hF => ?_)
      refine vc_opg hF rfl rfl rfl rfl (fun K hK => ws_call hF rfl (by decide) cl12_s8 rfl rfl ?_)
      with_reducible refine (sp_check w0 _ ([row b10 28 (q.cells (.slice qA q.ss.length qC))] :: [row b7 28 (p.cells (.slice sA p.ss.length sC))] :: [row b4 23 (dc k)] :: [row b1 23 (dc root)] :: []) [] (List.nil_subset _) q qA qC width root k hq hr hk hT hS2 hA48 ).mono ?_
      rintro e' w49 ⟨rfl, hA50⟩
      refine ⟨_, rfl, fun a hF => hK _ _ ?_⟩
      clear hK K
      replace hA50 : Hp w0 ([row b10 28 (q.cells (.slice qA q.ss.length qC))] :: [row b7 28 (p.cells (.slice sA p.ss.length sC))] :: [row b4 23 (dc k)] :: [row b1 23 (dc root)] :: []) w49 := hA50
      refine vc_yg hF rfl rfl rfl rfl rfl (by decide) _ (y_cmp rfl rfl rfl rfl (neq_t (by omega))) (fun a hF => ?_)
      refine vc_y hF rfl rfl (by decide) _ (y_pick rfl rfl rfl) (fun a hF => ?_)
      refine vc_y hF rfl rfl (by decide) _ (y_move rfl rfl) (fun a hF => ?_)
      refine vc_skip hF rfl rfl rfl rfl rfl rfl (by decide) (fun a hF => ?_)
      refine vc_skip hF rfl rfl rfl rfl rfl rfl (by decide) (fun a hF => ?_)
      refine vc_skip hF rfl rfl rfl rfl rfl rfl (by decide) (fun a hF => ?_)
      refine vc_y hF rfl rfl (by decide) _ (y_pick rfl rfl rfl) (fun a hF => ?_)
      refine vc_nil ?_
      refine hK5 _ _ ?_; clear  hK5 K5
      refine vc_true hF rfl ?_
      apply wp_seq_k; intro K13 hK13
      refine wp_region_lit ?_
      refine vc_y hF rfl rfl (by decide) _ (y_assign rfl rfl) (fun a hF => ?_)
      refine vc_nil ?_
      refine hK13 _ _ ?_; clear  hK13 K13
      apply wp_ret
      simp only [Exit.then]
      refine vc_ret1 hF Tryd.results5 rfl ?_
      exact ⟨rfl, hA50.at0⟩
  · refine wp_region_lit ?_
    refine vc_y hF rfl rfl (by decide) _ (y_move rfl rfl) (fun a hF => ?_)
    refine vc_y hF rfl rfl (by decide) _ (y_ldRow (new := dc root) rfl hA20.q rfl 3 rfl rw23_s8 (by rw [hdr]; exact Nat.le_refl _) (by rw [List.drop_zero]; exact List.take_of_length_le (by rw [hdr]; exact Nat.le_refl _))) (fun a hF => ?_)
    refine vc_y hF rfl rfl (by decide) _ (y_ldRow (new := dc k) rfl hA20.q rfl 2 rfl rw23_s8 (by rw [hdk]; exact Nat.le_refl _) (by rw [List.drop_zero]; exact List.take_of_length_le (by rw [hdk]; exact Nat.le_refl _))) (fun a hF => ?_)
    refine vc_y hF rfl rfl (by decide) _ (y_ldRow rfl hA20.q rfl 1 rfl rw28_s8 (by rw [Prf.c_len hp]; decide) (Prf.c_all hp)) (fun a hF => ?_)
    refine vc_op rfl (fun K hK => ws_call hF rfl (by decide) cl12_s8 rfl rfl ?_)
    with_reducible refine (sp_check w0 _ ([row b10 28 (q.cells (.slice qA q.ss.length qC))] :: [row b7 28 (p.cells (.slice sA p.ss.length sC))] :: [row b4 23 (dc k)] :: [row b1 23 (dc root)] :: []) [] (List.nil_subset _) p sA sC width root k hp hr hk hT hS hA20 ).mono ?_
    rintro e' w51 ⟨rfl, hA52⟩
    refine ⟨_, rfl, fun a hF => hK _ _ ?_⟩
    clear hK K
    replace hA52 : Hp w0 ([row b10 28 (q.cells (.slice qA q.ss.length qC))] :: [row b7 28 (p.cells (.slice sA p.ss.length sC))] :: [row b4 23 (dc k)] :: [row b1 23 (dc root)] :: []) w51 := hA52
    refine vc_y hF rfl rfl (by decide) _ (y_cmp rfl rfl rfl rfl (neq_t (by omega))) (fun a hF => ?_)
    refine vc_y hF rfl rfl (by decide) _ (y_move rfl rfl) (fun a hF => ?_)
    refine vc_skip hF rfl rfl rfl rfl rfl rfl (by decide) (fun a hF => ?_)
    refine vc_skip hF rfl rfl rfl rfl rfl rfl (by decide) (fun a hF => ?_)
    refine vc_skip hF rfl rfl rfl rfl rfl rfl (by decide) (fun a hF => ?_)
    refine vc_skip hF rfl rfl rfl rfl rfl rfl (by decide) (fun a hF => ?_)
    refine vc_skip hF rfl rfl rfl rfl rfl rfl (by decide) (fun a hF => ?_)
    refine vc_skip hF rfl rfl rfl rfl rfl rfl (by decide) (fun a hF => ?_)
    refine vc_y hF rfl rfl (by decide) _ (y_pick rfl rfl rfl) (fun a hF => ?_)
    refine vc_y hF rfl rfl (by decide) _ (y_move rfl rfl) (fun a hF => ?_)
    refine vc_skip hF rfl rfl rfl rfl rfl rfl (by decide) (fun a hF => ?_)
    refine vc_skip hF rfl rfl rfl rfl rfl rfl (by decide) (fun a hF => ?_)
    refine vc_skip hF rfl rfl rfl rfl rfl rfl (by decide) (fun a hF => ?_)
    refine vc_y hF rfl rfl (by decide) _ (y_pick rfl rfl rfl) (fun a hF => ?_)
    refine vc_nil ?_
    refine hK5 _ _ ?_; clear  hK5 K5
    refine vc_true hF rfl ?_
    apply wp_seq_k; intro K14 hK14
    refine wp_region_lit ?_
    refine vc_y hF rfl rfl (by decide) _ (y_assign rfl rfl) (fun a hF => ?_)
    refine vc_nil ?_
    refine hK14 _ _ ?_; clear  hK14 K14
    apply wp_ret
    simp only [Exit.then]
    refine vc_ret1 hF Tryd.results5 rfl ?_
    exact ⟨rfl, hA52.at0⟩
end Go.Proofs.YtpomngkcfbnjoaaDoor
