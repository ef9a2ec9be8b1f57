/- Clash, the program's. -/
import Derived.Test.YtppmhlkonemebaaDoorTab2
namespace Go.Proofs.YtppmhlkonemebaaDoor
open Go.RowKit Go.Dk

def txOf (ps : List Part) (i : Nat) : List UInt8 := (ps[i]?.map (·.2.2)).getD []
def digOf (width : Int) (ps : List Part) (i : Nat) : List UInt8 := cutL (sha (txOf ps i)) width
theorem digOf_length (width : Int) (ps : List Part) (i : Nat) : (digOf width ps i).length = 32 := cutL_length _ _ (sha_length _)
theorem txOf_at {ps : List Part} {i : Nat} {A : Option Addr} {c : Nat} {l : List UInt8} (h : ps[i]? = some (A, c, l)) : txOf ps i = l := by simp [txOf, h]
/-- texts of one sum are one -/
def NoClash (dig tx : Nat → List UInt8) (n : Nat) : Prop := ∀ a b, a < n → b < n → dig a = dig b → tx a = tx b
/-- the first pair -/
def ClashAt (dig tx : Nat → List UInt8) (i j : Nat) : Prop := i < j ∧ dig i = dig j ∧ tx i ≠ tx j ∧ NoClash dig tx j ∧ ∀ a, a < i → dig a ≠ dig j
structure Firsts (dig tx : Nat → List UInt8) (M : List (List UInt8 × Nat)) (j : Nat) : Prop where
  idx : ∀ p ∈ M, p.2 < j ∧ p.1 = dig p.2 ∧ ∀ a, a < p.2 → dig a ≠ p.1
  cov : ∀ a, a < j → ∃ p ∈ M, p.1 = dig a ∧ tx p.2 = tx a
section
variable {dig tx : Nat → List UInt8} {M : List (List UInt8 × Nat)} {j : Nat}
theorem Firsts.nil : Firsts dig tx [] 0 := ⟨(fun _ h => by cases h), fun a h => absurd h (Nat.not_lt_zero a)⟩
theorem Firsts.none (h : Firsts dig tx M j) : NoClash dig tx j := by
  intro a b ha hb hab
  obtain ⟨p, hp, p1, p2⟩ := h.cov a ha
  obtain ⟨q, hq, q1, q2⟩ := h.cov b hb
  have hpq : p.1 = q.1 := by rw [p1, q1, hab]
  obtain ⟨_, e1, m1⟩ := h.idx p hp
  obtain ⟨_, e2, m2⟩ := h.idx q hq
  have : p.2 = q.2 := by
    rcases Nat.lt_trichotomy p.2 q.2 with h1 | h1 | h1
    · exact absurd (e1.symm.trans hpq) (m2 _ h1)
    · exact h1
    · exact absurd (e2.symm.trans hpq.symm) (m1 _ h1)
  rw [← p2, ← q2, this]
theorem Firsts.push (h : Firsts dig tx M j) (hno : ∀ p ∈ M, p.1 ≠ dig j) : Firsts dig tx (M ++ [(dig j, j)]) (j + 1) := by
  refine ⟨fun p hp => ?_, fun a ha => ?_⟩
  · rcases List.mem_append.1 hp with hp | hp
    · obtain ⟨h1, h2, h3⟩ := h.idx p hp; exact ⟨by omega, h2, h3⟩
    · simp only [List.mem_cons, List.not_mem_nil, or_false] at hp
      subst hp
      refine ⟨Nat.lt_succ_self _, rfl, fun a ha he => ?_⟩
      obtain ⟨q, hq, q1, _⟩ := h.cov a ha
      exact hno q hq (q1.trans he)
  · rcases Nat.lt_or_ge a j with h1 | h1
    · obtain ⟨p, hp, e⟩ := h.cov a h1; exact ⟨p, List.mem_append_left _ hp, e⟩
    · obtain rfl : a = j := by omega
      exact ⟨_, List.mem_append_right _ (List.mem_cons_self ..), rfl, rfl⟩
theorem Firsts.same (h : Firsts dig tx M j) {i : Nat} (hi : (dig j, i) ∈ M) (he : tx i = tx j) : Firsts dig tx M (j + 1) := by
  refine ⟨fun p hp => ?_, fun a ha => ?_⟩
  · obtain ⟨h1, h2, h3⟩ := h.idx p hp; exact ⟨by omega, h2, h3⟩
  · rcases Nat.lt_or_ge a j with h1 | h1
    · exact h.cov a h1
    · obtain rfl : a = j := by omega
      exact ⟨_, hi, rfl, he⟩
theorem Firsts.clash (h : Firsts dig tx M j) {i : Nat} (hi : (dig j, i) ∈ M) (he : tx i ≠ tx j) : ClashAt dig tx i j := by
  obtain ⟨h1, h2, h3⟩ := h.idx _ hi
  exact ⟨h1, h2.symm, he, h.none, h3⟩
end
theorem rw36_t3 : isRow Tryd.prog 36 32 = true := by kernel_rfl
theorem sz24_t3 : (Tryd.prog.info? 24).map (·.size) = some 1 := by kernel_rfl
theorem cl21_t3 : CallsTo Tryd.prog 21 := ⟨_, Tryd.func21, by kernel_rfl, by kernel_rfl⟩
theorem cl56_t3 : CallsTo Tryd.prog 56 := ⟨_, Tryd.func56, by kernel_rfl, by kernel_rfl⟩
theorem cl66_t3 : CallsTo Tryd.prog 66 := ⟨_, Tryd.func66, by kernel_rfl, by kernel_rfl⟩
theorem cl67_t3 : CallsTo Tryd.prog 67 := ⟨_, Tryd.func67, by kernel_rfl, by kernel_rfl⟩

set_option maxRecDepth 100000 in
set_option maxHeartbeats 1000000 in
theorem clash_any (w : World) (width : Int) (pa : Option Addr) (ps : List Part) (c n : Nat) (hn : n = ps.length) (hP : Pieces w pa ps) (hl : ∀ A c l, (A, c, l) ∈ ps → l.length < 140737488354000) (hnb : n < 9223372036854775807) (hT : Tab w) :
    Calls Tryd.prog 28 #[.int .i64 width, .slice pa n c] w fun e w' => (NoClash (digOf width ps) (txOf ps) ps.length ∧ e = .returned (.tuple #[.slice none 0 0, .slice none 0 0, .bool false]) ∧ At w [] w') ∨
      ∃ i j v1 v2 Y1 Y2, ClashAt (digOf width ps) (txOf ps) i j ∧ j < ps.length ∧ e = .returned (.tuple #[v1, v2, .bool true]) ∧ Own w 5 1 Y1 v1 (txOf ps i).length (dc (txOf ps i)) ∧ Own w 5 1 Y2 v2 (txOf ps j).length (dc (txOf ps j)) ∧ At w (Y2 ++ Y1) w' := by
  subst hn
  have hA0 := At.refl w
  have hpos : 0 < w.heap.size := hT.lt
  refine vc_enter Tryd.func28 rfl Tryd.ntmps28 (Nat.le_of_ble_eq_true rfl) (fun a hF => ?_)
  apply wp_seq_k; intro K1 hK1
  refine wp_region_lit ?_
  refine vc_y hF rfl rfl (by decide) _ (y_assign rfl rfl) (fun a hF => ?_)
  refine vc_y hF rfl rfl (by decide) _ (y_assign rfl rfl) (fun a hF => ?_)
  refine vc_y hF rfl rfl (by decide) _ (y_assign rfl rfl) (fun a hF => ?_)
  refine vc_nil ?_
  refine hK1 _ _ ?_; clear  hK1 K1
  apply wp_seq_k; intro K2 hK2
  refine wp_region_lit ?_
  refine vc_op rfl (fun K hK => ws_makeMap (k := 36) hF rfl (by decide) rfl hA0 (fun g w1 a hg hF hA1 hM1 => hK _ _ ?_))
  clear hK K
  refine vc_y hF rfl rfl (by decide) _ (y_assign rfl rfl) (fun a hF => ?_)
  refine vc_nil ?_
  refine hK2 _ _ ?_; clear  hK2 K2
  apply wp_seq_k; intro K3 hK3
  apply wp_seq_k; intro K4 hK4
  refine wp_region_lit ?_
  refine vc_y hF rfl rfl (by decide) _ (y_move rfl rfl) (fun a hF => ?_)
  refine vc_y hF rfl rfl (by decide) _ (y_lenSl rfl Tryd.underlying29 rfl rfl) (fun a hF => ?_)
  refine vc_y hF rfl rfl (by decide) _ (y_move rfl rfl) (fun a hF => ?_)
  refine vc_nil ?_
  refine hK4 _ _ ?_; clear  hK4 K4
  apply wp_block
  refine vc_loop (G := Nat) (fun j a x => j ≤ ps.length ∧ ∃ M, Fr 51 [(16, .int .i64 (j : Int)), (0, .int .i64 width), (1, .slice pa ps.length c), (7, .map (some g)), (14, .slice pa ps.length c), (15, .int .i64 (ps.length : Int))] a ∧ MapIs Tryd.prog 36 x g M ∧ Firsts (digOf width ps) (txOf ps) M j ∧ At w [] x) (fun j => ps.length - j) 0 ⟨Nat.zero_le _, [], hF.keep [16, 0, 1, 7, 14, 15] rfl, hM1, Firsts.nil, hA1⟩ ?_
  clear hF
  rintro j a wr ⟨hj, M, hF, hM, hFs, hAr⟩
  by_cases hlt : j < ps.length
  · have hPr := hP.fresh hAr nil_new
    have hne : ps ≠ [] := fun e => by rw [e] at hlt; exact absurd hlt (Nat.not_lt_zero _)
    obtain ⟨b, o, hpe, hbl, hcells⟩ := hPr.1 hne
    have hTr : Tab wr := hT.at_ hAr (by simp)
    subst hpe
    obtain ⟨⟨PA, cA, l⟩, hp⟩ : ∃ q, ps[j]? = some q := ⟨_, List.getElem?_eq_getElem hlt⟩
    have hcell := hcells j PA cA l hp
    obtain ⟨hlc, hBl⟩ := hPr.2 PA cA l (List.mem_of_getElem? hp)
    have hll := hl PA cA l (List.mem_of_getElem? hp)
    have htx := txOf_at hp
    have hD : cutL (sha l) width = digOf width ps j := by rw [digOf, htx]
    have hDl := digOf_length width ps j
    have hgr := hM.lt
    have hR0 := At.refl wr
    apply wp_seq_k; intro K5 hK5
    refine wp_region_lit ?_
    refine vc_y hF rfl rfl (by decide) _ (y_cmp rfl rfl rfl rfl rfl) (fun a hF => ?_)
    refine vc_nil ?_
    refine hK5 _ _ ?_; clear  hK5 K5
    apply wp_seq_k; intro K6 hK6
    refine vc_trueB hF rfl (lss_t (by omega)) ?_
    apply wp_skip
    refine hK6 _ _ ?_; clear  hK6 K6
    apply wp_seq_k; intro K7 hK7
    apply wp_block
    apply wp_seq_k; intro K8 hK8
    refine wp_region_lit ?_
    refine vc_y hF rfl rfl (by decide) _ (y_move rfl rfl) (fun a hF => ?_)
    refine vc_y hF rfl rfl (by decide) _ (y_ixSl rfl Tryd.underlying29 sz24_t3 rfl rfl j rfl hlt (ad2 _ _ _)) (fun a hF => ?_)
    refine vc_y hF rfl rfl (by decide) _ (y_load1 rfl rfl hcell no24) (fun a hF => ?_)
    refine vc_y hF rfl rfl (by decide) _ (y_assign rfl rfl) (fun a hF => ?_)
    refine vc_y hF rfl rfl (by decide) _ (y_assign rfl rfl) (fun a hF => ?_)
    refine vc_nil ?_
    refine hK8 _ _ ?_; clear  hK8 K8
    apply wp_seq_k; intro K9 hK9
    refine wp_region_lit ?_
    refine vc_y hF rfl rfl (by decide) _ (y_move rfl rfl) (fun a hF => ?_)
    refine vc_op rfl (fun K hK => ws_call hF rfl (by decide) cl21_t3 rfl rfl ?_)
    with_reducible refine (digest_all wr PA l cA l.length rfl hlc hBl (by omega) hTr).mono ?_
    rintro e' w2 ⟨rfl, hR2⟩
    refine ⟨_, rfl, fun a hF => hK _ _ ?_⟩; clear hK K
    refine vc_y hF rfl rfl (by decide) _ (y_move rfl rfl) (fun a hF => ?_)
    refine vc_op rfl (fun K hK => ws_call hF rfl (by decide) cl56_t3 rfl rfl ?_)
    with_reducible refine (cut_any _ width w2 (sha_length _)).mono ?_
    rintro e' w3 ⟨rfl, hc3⟩
    refine ⟨_, rfl, fun a hF => hK _ _ ?_⟩; clear hK K
    have hR3 := hR2.then0 hc3
    clear hc3
    rw [hD] at hF
    refine vc_op rfl (fun K hK => ws_alloc hF rfl (by decide) rfl hR3 zero36 (fun b10 w4 a hb10 hF hR4 => hK _ _ ?_))
    clear hK K
    refine vc_op rfl (fun K hK => ws_storeAll hF rfl rfl hR4 rfl rfl 0 rfl (tb_z hDl) (dc_one _) tb_s (fun w5 hR5 => hK _ _ ?_))
    clear hK K
    replace hR5 : At wr [(b10, 36, dc (digOf width ps j))] w5 := hR5
    refine vc_nil ?_
    refine hK9 _ _ ?_; clear  hK9 K9
    apply wp_seq_k; intro K10 hK10
    have q10 : wr.heap.size ≤ b10 := by have := hR3.size; omega
    have hM5 : MapIs Tryd.prog 36 w5 g M := hM.at_ hR5 (by simp; omega)
    have hA5 : At w [(b10, 36, dc (digOf width ps j))] w5 := hAr.thenNew hR5 (one_new q10)
    have hA5e : At w [] w5 := hA5.dropNew (List.nil_sublist _) (one_new (by have := hAr.size; omega))
    have hP5 := hP.fresh hA5e nil_new
    rcases hM5.look tb_dkey Tryd.underlying95 (tb_zero3 _) (digOf width ps j) hDl (tb_formed hDl) with ⟨hno, hr⟩ | ⟨i, hi, hr⟩
    · refine wp_region_lit ?_
      refine vc_y hF rfl rfl (by decide) _ (y_move rfl rfl) (fun a hF => ?_)
      refine vc_y hF rfl rfl (by decide) _ (y_loadRow rfl hR5 rfl 0 rfl rw36_t3 (by show 0 + 32 ≤ (dc (digOf width ps j)).length; rw [dc_length, hDl]; decide) (new := dc (digOf width ps j)) (by rw [List.drop_zero]; exact List.take_of_length_le (by rw [dc_length, hDl]; exact Nat.le_refl _))) (fun a hF => ?_)
      refine vc_y hF rfl rfl (by decide) _ (y_lookup rfl rfl rfl hr) (fun a hF => ?_)
      refine vc_y hF rfl rfl (by decide) _ (y_move rfl rfl) (fun a hF => ?_)
      refine vc_y hF rfl rfl (by decide) _ (y_extract rfl rfl rfl) (fun a hF => ?_)
      refine vc_y hF rfl rfl (by decide) _ (y_extract rfl rfl rfl) (fun a hF => ?_)
      refine vc_y hF rfl rfl (by decide) _ (y_assign rfl rfl) (fun a hF => ?_)
      refine vc_y hF rfl rfl (by decide) _ (y_assign rfl rfl) (fun a hF => ?_)
      refine vc_nil ?_
      refine hK10 _ _ ?_; clear  hK10 K10
      apply wp_seq_k; intro K11 hK11
      refine wp_region_lit ?_
      refine vc_y hF rfl rfl (by decide) _ (y_move rfl rfl) (fun a hF => ?_)
      refine vc_y hF rfl rfl (by decide) _ (y_not rfl rfl rfl) (fun a hF => ?_)
      refine vc_nil ?_
      refine hK11 _ _ ?_; clear  hK11 K11
      refine vc_true hF rfl ?_
      refine wp_region_lit ?_
      refine vc_y hF rfl rfl (by decide) _ (y_move rfl rfl) (fun a hF => ?_)
      refine vc_y hF rfl rfl (by decide) _ (y_loadRow rfl hR5 rfl 0 rfl rw36_t3 (by show 0 + 32 ≤ (dc (digOf width ps j)).length; rw [dc_length, hDl]; decide) (new := dc (digOf width ps j)) (by rw [List.drop_zero]; exact List.take_of_length_le (by rw [dc_length, hDl]; exact Nat.le_refl _))) (fun a hF => ?_)
      refine vc_y hF rfl rfl (by decide) _ (y_move rfl rfl) (fun a hF => ?_)
      refine vc_op rfl (fun K hK => ws_mapUpdate hF rfl rfl hA5 hM5 hg tb_dkey Tryd.underlying95 (digOf width ps j) hDl (tb_formed hDl) j rfl rfl rfl hno (fun w6 hA6 hM6 => hK _ _ ?_))
      clear hK K
      refine vc_nil ?_
      refine hK7 _ _ ?_; clear  hK7 K7
      refine wp_region_lit ?_
      refine vc_y hF rfl rfl (by decide) _ (y_add rfl rfl rfl (IntWalk.i64_in _ (by omega))) (fun a hF => ?_)
      refine vc_y hF rfl rfl (by decide) _ (y_move rfl rfl) (fun a hF => ?_)
      refine vc_nil ?_
      exact ⟨j + 1, by omega, by omega, _, hF.keep [16, 0, 1, 7, 14, 15] rfl, hM6, hFs.push hno, hA6.dropNew (List.nil_sublist _) (one_new (by have := hAr.size; omega))⟩
    · obtain ⟨hij, _, _⟩ := hFs.idx _ hi
      simp only at hij
      have hil : i < ps.length := by omega
      obtain ⟨⟨PB, cB, k⟩, hpi⟩ : ∃ q, ps[i]? = some q := ⟨_, List.getElem?_eq_getElem hil⟩
      obtain ⟨b', o', hpe, _, hcells5⟩ := hP5.1 hne
      cases hpe
      have hcell5 := hcells5 i PB cB k hpi
      obtain ⟨hkc, hBk⟩ := hP5.2 PB cB k (List.mem_of_getElem? hpi)
      have hkl := hl PB cB k (List.mem_of_getElem? hpi)
      have hBl5 := (hP5.2 PA cA l (List.mem_of_getElem? hp)).2
      have htx2 := txOf_at hpi
      refine wp_region_lit ?_
      refine vc_y hF rfl rfl (by decide) _ (y_move rfl rfl) (fun a hF => ?_)
      refine vc_y hF rfl rfl (by decide) _ (y_loadRow rfl hR5 rfl 0 rfl rw36_t3 (by show 0 + 32 ≤ (dc (digOf width ps j)).length; rw [dc_length, hDl]; decide) (new := dc (digOf width ps j)) (by rw [List.drop_zero]; exact List.take_of_length_le (by rw [dc_length, hDl]; exact Nat.le_refl _))) (fun a hF => ?_)
      refine vc_y hF rfl rfl (by decide) _ (y_lookup rfl rfl rfl hr) (fun a hF => ?_)
      refine vc_y hF rfl rfl (by decide) _ (y_move rfl rfl) (fun a hF => ?_)
      refine vc_y hF rfl rfl (by decide) _ (y_extract rfl rfl rfl) (fun a hF => ?_)
      refine vc_y hF rfl rfl (by decide) _ (y_extract rfl rfl rfl) (fun a hF => ?_)
      refine vc_y hF rfl rfl (by decide) _ (y_assign rfl rfl) (fun a hF => ?_)
      refine vc_y hF rfl rfl (by decide) _ (y_assign rfl rfl) (fun a hF => ?_)
      refine vc_nil ?_
      refine hK10 _ _ ?_; clear  hK10 K10
      apply wp_seq_k; intro K12 hK12
      refine wp_region_lit ?_
      refine vc_y hF rfl rfl (by decide) _ (y_move rfl rfl) (fun a hF => ?_)
      refine vc_y hF rfl rfl (by decide) _ (y_not rfl rfl rfl) (fun a hF => ?_)
      refine vc_nil ?_
      refine hK12 _ _ ?_; clear  hK12 K12
      refine vc_false hF rfl ?_
      apply wp_seq_k; intro K13 hK13
      refine wp_region_lit ?_
      refine vc_y hF rfl rfl (by decide) _ (y_move rfl rfl) (fun a hF => ?_)
      refine vc_y hF rfl rfl (by decide) _ (y_move rfl rfl) (fun a hF => ?_)
      refine vc_y hF rfl rfl (by decide) _ (y_ixSl rfl Tryd.underlying29 sz24_t3 rfl rfl i rfl hil (ad2 _ _ _)) (fun a hF => ?_)
      refine vc_y hF rfl rfl (by decide) _ (y_load1 rfl rfl hcell5 no24) (fun a hF => ?_)
      refine vc_y hF rfl rfl (by decide) _ (y_move rfl rfl) (fun a hF => ?_)
      refine vc_op rfl (fun K hK => ws_call hF rfl (by decide) cl66_t3 rfl rfl ?_)
      with_reducible refine (equal_any w5 PB PA k l _ _ cB cA rfl rfl hBk hBl5).mono ?_
      rintro e' w' ⟨rfl, rfl⟩
      refine ⟨_, rfl, fun a hF => hK _ _ ?_⟩; clear hK K
      refine vc_y hF rfl rfl (by decide) _ (y_not rfl rfl rfl) (fun a hF => ?_)
      refine vc_nil ?_
      refine hK13 _ _ ?_; clear  hK13 K13
      by_cases heq : k = l
      · refine vc_falseB hF rfl (by rw [heq, beq_self_eq_true]; rfl) ?_
        apply wp_skip
        refine hK7 _ _ ?_; clear  hK7 K7
        refine wp_region_lit ?_
        refine vc_y hF rfl rfl (by decide) _ (y_add rfl rfl rfl (IntWalk.i64_in _ (by omega))) (fun a hF => ?_)
        refine vc_y hF rfl rfl (by decide) _ (y_move rfl rfl) (fun a hF => ?_)
        refine vc_nil ?_
        exact ⟨j + 1, by omega, by omega, M, hF.keep [16, 0, 1, 7, 14, 15] rfl, hM5, hFs.same hi (by rw [htx2, htx, heq]), hA5e⟩
      · refine vc_trueB hF rfl (by rw [beq_eq_false_iff_ne.2 heq]; rfl) ?_
        apply wp_seq_k; intro K14 hK14
        refine wp_region_lit ?_
        refine vc_y hF rfl rfl (by decide) _ (y_move rfl rfl) (fun a hF => ?_)
        refine vc_y hF rfl rfl (by decide) _ (y_move rfl rfl) (fun a hF => ?_)
        refine vc_y hF rfl rfl (by decide) _ (y_ixSl rfl Tryd.underlying29 sz24_t3 rfl rfl i rfl hil (ad2 _ _ _)) (fun a hF => ?_)
        refine vc_y hF rfl rfl (by decide) _ (y_load1 rfl rfl hcell5 no24) (fun a hF => ?_)
        refine vc_op rfl (fun K hK => ws_call hF rfl (by decide) cl67_t3 rfl rfl ?_)
        with_reducible refine (clone_any w5 PB k _ cB rfl hBk (by omega)).mono ?_
        rintro e' w6 ⟨v6, Y6, rfl, hO6, hc6⟩
        refine ⟨_, rfl, fun a hF => hK _ _ ?_⟩; clear hK K
        have hA6 : At w (Y6 ++ []) w6 := hA5e.thenNew hc6 hO6.new
        have hn6 : ∀ r ∈ Y6, w.heap.size ≤ (r : Row).1 := fun r hr => Nat.le_trans hA5e.size (hO6.new r hr)
        refine vc_y hF rfl rfl (by decide) _ (y_move rfl rfl) (fun a hF => ?_)
        refine vc_op rfl (fun K hK => ws_call hF rfl (by decide) cl67_t3 rfl rfl ?_)
        with_reducible refine (clone_any w6 PA l _ cA rfl (hBl5.fresh hc6 hO6.new) (by omega)).mono ?_
        rintro e' w7 ⟨v7, Y7, rfl, hO7, hc7⟩
        refine ⟨_, rfl, fun a hF => hK _ _ ?_⟩; clear hK K
        have hA7 : At w (Y7 ++ (Y6 ++ [])) w7 := hA6.thenNew hc7 hO7.new
        rw [List.append_nil] at hA7
        have hO6w := hO6.weaken hA5e.size
        have hO7w := hO7.weaken hA6.size
        refine vc_y hF rfl rfl (by decide) _ (y_assign rfl rfl) (fun a hF => ?_)
        refine vc_y hF rfl rfl (by decide) _ (y_assign rfl rfl) (fun a hF => ?_)
        refine vc_y hF rfl rfl (by decide) _ (y_assign rfl rfl) (fun a hF => ?_)
        refine vc_nil ?_
        refine hK14 _ _ ?_; clear  hK14 K14
        apply wp_ret
        simp only [Exit.then, Exit.inBlock]
        refine vc_ret3 hF Tryd.results28 rfl rfl rfl ?_
        exact .inr ⟨i, j, v6, v7, Y6, Y7, hFs.clash hi (by rw [htx2, htx]; exact heq), hlt, rfl, by rw [htx2]; exact hO6w, by rw [htx]; exact hO7w, hA7⟩
  · obtain rfl : j = ps.length := by omega
    apply wp_seq_k; intro K15 hK15
    refine wp_region_lit ?_
    refine vc_y hF rfl rfl (by decide) _ (y_cmp rfl rfl rfl rfl rfl) (fun a hF => ?_)
    refine vc_nil ?_
    refine hK15 _ _ ?_; clear  hK15 K15
    apply wp_seq_k; intro K16 hK16
    refine vc_falseB hF rfl (lss_f (by omega)) ?_
    apply wp_exit
    refine hK3 _ _ ?_; clear hK16 K16 hK3 K3
    apply wp_seq_k; intro K17 hK17
    refine wp_region_lit ?_
    refine vc_y hF rfl rfl (by decide) _ (y_assign rfl rfl) (fun a hF => ?_)
    refine vc_y hF rfl rfl (by decide) _ (y_assign rfl rfl) (fun a hF => ?_)
    refine vc_y hF rfl rfl (by decide) _ (y_assign rfl rfl) (fun a hF => ?_)
    refine vc_nil ?_
    refine hK17 _ _ ?_; clear  hK17 K17
    apply wp_ret
    refine vc_ret3 hF Tryd.results28 rfl rfl rfl ?_
    exact .inl ⟨hFs.none, rfl, hAr⟩
end Go.Proofs.YtppmhlkonemebaaDoor
