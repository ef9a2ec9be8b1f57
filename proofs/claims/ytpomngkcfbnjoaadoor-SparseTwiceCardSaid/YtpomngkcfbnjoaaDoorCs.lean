/- Clone and Clash, with capacities bounded. -/
import Derived.Test.YtpomngkcfbnjoaaDoorTab3
import Derived.Test.YtpomngkcfbnjoaaDoorTab7
import Derived.Test.YtpomngkcfbnjoaaDoorKb
import Derived.Test.YtpomngkcfbnjoaaDoorHc
namespace Go.Proofs.YtpomngkcfbnjoaaDoor
open Go.RowKit Go.Dk
/-- a slice of bytes of new rows, its capacity bounded -/
def BufR (w : World) (Y : List Row) (v : Value) (l : List UInt8) : Prop := Buf 5 1 (its Y) v l.length (dc l) ∧ ∀ r ∈ Y, w.heap.size ≤ (r : Row).1
theorem BufR.new {w : World} {Y : List Row} {v : Value} {l : List UInt8} (h : BufR w Y v l) : ∀ r ∈ Y, w.heap.size ≤ (r : Row).1 := h.2
theorem BufR.weaken {w w' : World} {Y : List Row} {v : Value} {l : List UInt8} (h : BufR w' Y v l) (hs : w.heap.size ≤ w'.heap.size) : BufR w Y v l := ⟨h.1, fun r hr => Nat.le_trans hs (h.2 r hr)⟩
theorem BufR.rows {w w' : World} {Z : Seg} {v : Value} {l : List UInt8} (h : Buf 5 1 Z v l.length (dc l)) (hA : Hp w [Z] w') : ∃ Y, BufR w Y v l ∧ At w Y w' := by
  have hA' : Hl w Z w' := by
    have h1 : Hl w ([Z] : List Seg).flatten w' := hA
    rw [List.flatten_cons, List.flatten_nil, List.append_nil] at h1
    exact h1
  rcases h.2 with ⟨h1, h2, h3⟩ | ⟨g, c, B, Z', h1, h2, h3, h4⟩
  · subst h3
    exact ⟨[], ⟨h, fun _ h => by cases h⟩, hA'.at0⟩
  · refine ⟨[(g, 5, B ++ dc l ++ Z')], ⟨by rw [← show Z = its [(g, 5, B ++ dc l ++ Z')] from h4]; exact h, fun r hr => ?_⟩, ⟨hA'.os, hA'.tape, hA'.output, hA'.size, fun r hr => ?_, by simp, fun k hk _ => hA'.frame k hk⟩⟩
    · rw [List.mem_singleton] at hr
      subst hr
      exact hA'.new (row g 5 (B ++ dc l ++ Z')) (by rw [h4]; exact List.mem_cons_self ..)
    · rw [List.mem_singleton] at hr
      subst hr
      exact hA'.items (row g 5 (B ++ dc l ++ Z')) (by rw [h4]; exact List.mem_cons_self ..)



set_option maxRecDepth 100000 in
set_option maxHeartbeats 1000000 in
theorem clone_anyR (w : World) (X : Option Addr) (l : List UInt8) (n c : Nat) (hn : n = l.length) (hB : Bts w X l) (hl : l.length < 140737488354000) : Calls Tryd.prog 60 #[.slice X n c] w fun e w' => ∃ v Y, e = .returned v ∧ BufR w Y v l ∧ At w Y w' := by
  subst hn
  have hA : Hp w [] w := Hp.start w
  have hR : Rd w [] X l := Rd.old hB
  cases X with
  | none =>
    obtain rfl : l = [] := bts_none hB
    refine vc_enter Tryd.func60 rfl Tryd.ntmps60 (Nat.le_of_ble_eq_true rfl) (fun a hF => ?_)
    apply wp_seq_k; intro K1 hK1
    refine wp_region_lit ?_
    refine vc_y hF rfl rfl (by decide) _ (y_assign rfl rfl) (fun a hF => ?_)
    refine vc_nil ?_
    refine hK1 _ _ ?_; clear  hK1 K1
    apply wp_seq_k; intro K2 hK2
    apply wp_seq_k; intro K3 hK3
    refine wp_region_lit ?_
    refine vc_y hF rfl rfl (by decide) _ (y_move rfl rfl) (fun a hF => ?_)
    refine vc_y hF rfl rfl (by decide) _ (y_slNilT rfl Tryd.underlying59 rfl rfl) (fun a hF => ?_)
    refine vc_nil ?_
    refine hK3 _ _ ?_; clear  hK3 K3
    refine vc_true hF rfl ?_
    apply wp_seq_k; intro K4 hK4
    refine wp_region_lit ?_
    refine vc_y hF rfl rfl (by decide) _ (y_assign rfl rfl) (fun a hF => ?_)
    refine vc_nil ?_
    refine hK4 _ _ ?_; clear  hK4 K4
    apply wp_ret
    simp only [Exit.then]
    refine vc_ret1 hF Tryd.results60 rfl ?_
    exact ⟨_, [], rfl, ⟨Buf.nil _ _, fun _ h => by cases h⟩, At.refl w⟩
  | some ad =>
    refine vc_enter Tryd.func60 rfl Tryd.ntmps60 (Nat.le_of_ble_eq_true rfl) (fun a hF => ?_)
    apply wp_seq_k; intro K5 hK5
    refine wp_region_lit ?_
    refine vc_y hF rfl rfl (by decide) _ (y_assign rfl rfl) (fun a hF => ?_)
    refine vc_nil ?_
    refine hK5 _ _ ?_; clear  hK5 K5
    apply wp_seq_k; intro K6 hK6
    apply wp_seq_k; intro K7 hK7
    refine wp_region_lit ?_
    refine vc_y hF rfl rfl (by decide) _ (y_move rfl rfl) (fun a hF => ?_)
    refine vc_y hF rfl rfl (by decide) _ (y_slNilF rfl Tryd.underlying59 rfl rfl) (fun a hF => ?_)
    refine vc_nil ?_
    refine hK7 _ _ ?_; clear  hK7 K7
    refine vc_false hF rfl ?_
    apply wp_skip
    refine hK6 _ _ ?_; clear  hK6 K6
    apply wp_seq_k; intro K8 hK8
    refine wp_region_lit ?_
    refine vc_op rfl (fun K hK => hs_bs (qs := #[]) (cells := #[]) hF rfl (by decide) rfl hA rfl tb_bs0 (fun g w1 a hg hF hA2 => hK _ _ ?_))
    clear hK K
    replace hA2 : Hp w ([row g 5 ([] : List Value)] :: []) w1 := hA2
    have hO1 : Buf 5 1 [row g 5 []] (.slice (some ⟨g, 0, none⟩) 0 0) 0 [] := Buf.full (m := 0) rfl (by decide)
    refine vc_y hF rfl rfl (by decide) _ (y_move rfl rfl) (fun a hF => ?_)
    refine vc_op rfl (fun K hK => hs_append hF rfl (by decide) rfl hA2 0 rfl hO1 Tryd.underlying59 ow_elem5 rfl rfl (Rc.src (hR.mono (List.nil_subset _)) hA2.q Tryd.underlying59) (by omega) (by decide) (fun v2 X2 w3 a hO2 hF hA4 => hK _ _ ?_))
    clear hK K
    replace hA4 : Hp w (X2 :: []) w3 := hA4
    refine vc_y hF rfl rfl (by decide) _ (y_assign rfl rfl) (fun a hF => ?_)
    refine vc_nil ?_
    refine hK8 _ _ ?_; clear  hK8 K8
    apply wp_ret
    refine vc_ret1 hF Tryd.results60 rfl ?_
    rw [Nat.zero_add, List.nil_append] at hO2
    obtain ⟨Y, hY1, hY2⟩ := BufR.rows hO2 hA4
    exact ⟨v2, Y, rfl, hY1, hY2⟩
set_option maxRecDepth 100000 in
set_option maxHeartbeats 1000000 in
theorem clash_anyR (w : World) (width : Int) (pa : Option Addr) (ps : List Part) (c n : Nat) (hn : n = ps.length) (hP : Pieces w pa ps) (hl : ∀ A c l, (A, c, l) ∈ ps → l.length < 140737488354000) (hnb : n < 9223372036854775807) (hT : Tab w) :
    Calls Tryd.prog 26 #[.int .i64 width, .slice pa n c] w fun e w' => (NoClash (digOf width ps) (txOf ps) ps.length ∧ e = .returned (.tuple #[.slice none 0 0, .slice none 0 0, .bool false]) ∧ At w [] w') ∨
      ∃ i j v1 v2 Y1 Y2, ClashAt (digOf width ps) (txOf ps) i j ∧ j < ps.length ∧ e = .returned (.tuple #[v1, v2, .bool true]) ∧ BufR w Y1 v1 (txOf ps i) ∧ BufR w Y2 v2 (txOf ps j) ∧ At w (Y2 ++ Y1) w' := by
  subst hn
  have hA0 := At.refl w
  have hpos : 0 < w.heap.size := hT.lt
  refine vc_enter Tryd.func26 rfl Tryd.ntmps26 (Nat.le_of_ble_eq_true rfl) (fun a hF => ?_)
  apply wp_seq_k; intro K1 hK1
  refine wp_region_lit ?_
  refine vc_y hF rfl rfl (by decide) _ (y_assign rfl rfl) (fun a hF => ?_)
  refine vc_y hF rfl rfl (by decide) _ (y_assign rfl rfl) (fun a hF => ?_)
  refine vc_y hF rfl rfl (by decide) _ (y_assign rfl rfl) (fun a hF => ?_)
  refine vc_nil ?_
  refine hK1 _ _ ?_; clear  hK1 K1
  apply wp_seq_k; intro K2 hK2
  refine wp_region_lit ?_
  refine vc_op rfl (fun K hK => ws_makeMap (k := 23) hF rfl (by decide) rfl hA0 (fun g w1 a hg hF hA1 hM1 => hK _ _ ?_))
  clear hK K
  refine vc_y hF rfl rfl (by decide) _ (y_assign rfl rfl) (fun a hF => ?_)
  refine vc_nil ?_
  refine hK2 _ _ ?_; clear  hK2 K2
  apply wp_seq_k; intro K3 hK3
  apply wp_seq_k; intro K4 hK4
  refine wp_region_lit ?_
  refine vc_y hF rfl rfl (by decide) _ (y_move rfl rfl) (fun a hF => ?_)
  refine vc_y hF rfl rfl (by decide) _ (y_lenSl rfl Tryd.underlying35 rfl rfl) (fun a hF => ?_)
  refine vc_y hF rfl rfl (by decide) _ (y_move rfl rfl) (fun a hF => ?_)
  refine vc_nil ?_
  refine hK4 _ _ ?_; clear  hK4 K4
  apply wp_block
  refine vc_loop (G := Nat) (fun j a x => j ≤ ps.length ∧ ∃ M, Fr 51 [(16, .int .i64 (j : Int)), (0, .int .i64 width), (1, .slice pa ps.length c), (7, .map (some g)), (14, .slice pa ps.length c), (15, .int .i64 (ps.length : Int))] a ∧ MapIs Tryd.prog 23 x g M ∧ Firsts (digOf width ps) (txOf ps) M j ∧ At w [] x) (fun j => ps.length - j) 0 ⟨Nat.zero_le _, [], hF.keep [16, 0, 1, 7, 14, 15] rfl, hM1, Firsts.nil, hA1⟩ ?_
  clear hF
  rintro j a wr ⟨hj, M, hF, hM, hFs, hAr⟩
  by_cases hlt : j < ps.length
  · have hPr := hP.fresh hAr nil_new
    have hne : ps ≠ [] := fun e => by rw [e] at hlt; exact absurd hlt (Nat.not_lt_zero _)
    obtain ⟨b, o, hpe, hbl, hcells⟩ := hPr.1 hne
    have hTr : Tab wr := hT.at_ hAr (by simp)
    subst hpe
    obtain ⟨⟨PA, cA, l⟩, hp⟩ : ∃ q, ps[j]? = some q := ⟨_, List.getElem?_eq_getElem hlt⟩
    have hcell := hcells j PA cA l hp
    obtain ⟨hlc, hBl⟩ := hPr.2 PA cA l (List.mem_of_getElem? hp)
    have hll := hl PA cA l (List.mem_of_getElem? hp)
    have htx := txOf_at hp
    have hD : cutL (sha l) width = digOf width ps j := by rw [digOf, htx]
    have hDl := digOf_length width ps j
    have hgr := hM.lt
    have hR0 := At.refl wr
    apply wp_seq_k; intro K5 hK5
    refine wp_region_lit ?_
    refine vc_y hF rfl rfl (by decide) _ (y_cmp rfl rfl rfl rfl rfl) (fun a hF => ?_)
    refine vc_nil ?_
    refine hK5 _ _ ?_; clear  hK5 K5
    apply wp_seq_k; intro K6 hK6
    refine vc_trueB hF rfl (lss_t (by omega)) ?_
    apply wp_skip
    refine hK6 _ _ ?_; clear  hK6 K6
    apply wp_seq_k; intro K7 hK7
    apply wp_block
    apply wp_seq_k; intro K8 hK8
    refine wp_region_lit ?_
    refine vc_y hF rfl rfl (by decide) _ (y_move rfl rfl) (fun a hF => ?_)
    refine vc_y hF rfl rfl (by decide) _ (y_ixSl rfl Tryd.underlying35 sz24_t3 rfl rfl j rfl hlt (ad2 _ _ _)) (fun a hF => ?_)
    refine vc_y hF rfl rfl (by decide) _ (y_load1 rfl rfl hcell no24) (fun a hF => ?_)
    refine vc_y hF rfl rfl (by decide) _ (y_assign rfl rfl) (fun a hF => ?_)
    refine vc_y hF rfl rfl (by decide) _ (y_assign rfl rfl) (fun a hF => ?_)
    refine vc_nil ?_
    refine hK8 _ _ ?_; clear  hK8 K8
    apply wp_seq_k; intro K9 hK9
    refine wp_region_lit ?_
    refine vc_y hF rfl rfl (by decide) _ (y_move rfl rfl) (fun a hF => ?_)
    refine vc_op rfl (fun K hK => ws_call hF rfl (by decide) cl21_t3 rfl rfl ?_)
    with_reducible refine (digest_all wr PA l cA l.length rfl hlc hBl (by omega) hTr).mono ?_
    rintro e' w2 ⟨rfl, hR2⟩
    refine ⟨_, rfl, fun a hF => hK _ _ ?_⟩; clear hK K
    refine vc_y hF rfl rfl (by decide) _ (y_move rfl rfl) (fun a hF => ?_)
    refine vc_op rfl (fun K hK => ws_call hF rfl (by decide) cl56_t3 rfl rfl ?_)
    with_reducible refine (cut_any _ width w2 (sha_length _)).mono ?_
    rintro e' w3 ⟨rfl, hc3⟩
    refine ⟨_, rfl, fun a hF => hK _ _ ?_⟩; clear hK K
    have hR3 := hR2.then0 hc3
    clear hc3
    rw [hD] at hF
    refine vc_op rfl (fun K hK => ws_alloc hF rfl (by decide) rfl hR3 zero36 (fun b10 w4 a hb10 hF hR4 => hK _ _ ?_))
    clear hK K
    refine vc_op rfl (fun K hK => ws_storeAll hF rfl rfl hR4 rfl rfl 0 rfl (tb_z hDl) (dc_one _) tb_s (fun w5 hR5 => hK _ _ ?_))
    clear hK K
    replace hR5 : At wr [(b10, 23, dc (digOf width ps j))] w5 := hR5
    refine vc_nil ?_
    refine hK9 _ _ ?_; clear  hK9 K9
    apply wp_seq_k; intro K10 hK10
    have q10 : wr.heap.size ≤ b10 := by have := hR3.size; omega
    have hM5 : MapIs Tryd.prog 23 w5 g M := hM.at_ hR5 (by simp; omega)
    have hA5 : At w [(b10, 23, dc (digOf width ps j))] w5 := hAr.thenNew hR5 (one_new q10)
    have hA5e : At w [] w5 := hA5.dropNew (List.nil_sublist _) (one_new (by have := hAr.size; omega))
    have hP5 := hP.fresh hA5e nil_new
    rcases hM5.look tb_dkey Tryd.underlying110 (tb_zero3 _) (digOf width ps j) hDl (tb_formed hDl) with ⟨hno, hr⟩ | ⟨i, hi, hr⟩
    · refine wp_region_lit ?_
      refine vc_y hF rfl rfl (by decide) _ (y_move rfl rfl) (fun a hF => ?_)
      refine vc_y hF rfl rfl (by decide) _ (y_loadRow rfl hR5 rfl 0 rfl rw36_t3 (by show 0 + 32 ≤ (dc (digOf width ps j)).length; rw [dc_length, hDl]; decide) (new := dc (digOf width ps j)) (by rw [List.drop_zero]; exact List.take_of_length_le (by rw [dc_length, hDl]; exact Nat.le_refl _))) (fun a hF => ?_)
      refine vc_y hF rfl rfl (by decide) _ (y_lookup rfl rfl rfl hr) (fun a hF => ?_)
      refine vc_y hF rfl rfl (by decide) _ (y_move rfl rfl) (fun a hF => ?_)
      refine vc_y hF rfl rfl (by decide) _ (y_extract rfl rfl rfl) (fun a hF => ?_)
      refine vc_y hF rfl rfl (by decide) _ (y_extract rfl rfl rfl) (fun a hF => ?_)
      refine vc_y hF rfl rfl (by decide) _ (y_assign rfl rfl) (fun a hF => ?_)
      refine vc_y hF rfl rfl (by decide) _ (y_assign rfl rfl) (fun a hF => ?_)
      refine vc_nil ?_
      refine hK10 _ _ ?_; clear  hK10 K10
      apply wp_seq_k; intro K11 hK11
      refine wp_region_lit ?_
      refine vc_y hF rfl rfl (by decide) _ (y_move rfl rfl) (fun a hF => ?_)
      refine vc_y hF rfl rfl (by decide) _ (y_not rfl rfl rfl) (fun a hF => ?_)
      refine vc_nil ?_
      refine hK11 _ _ ?_; clear  hK11 K11
      refine vc_true hF rfl ?_
      refine wp_region_lit ?_
      refine vc_y hF rfl rfl (by decide) _ (y_move rfl rfl) (fun a hF => ?_)
      refine vc_y hF rfl rfl (by decide) _ (y_loadRow rfl hR5 rfl 0 rfl rw36_t3 (by show 0 + 32 ≤ (dc (digOf width ps j)).length; rw [dc_length, hDl]; decide) (new := dc (digOf width ps j)) (by rw [List.drop_zero]; exact List.take_of_length_le (by rw [dc_length, hDl]; exact Nat.le_refl _))) (fun a hF => ?_)
      refine vc_y hF rfl rfl (by decide) _ (y_move rfl rfl) (fun a hF => ?_)
      refine vc_op rfl (fun K hK => ws_mapUpdate hF rfl rfl hA5 hM5 hg tb_dkey Tryd.underlying110 (digOf width ps j) hDl (tb_formed hDl) j rfl rfl rfl hno (fun w6 hA6 hM6 => hK _ _ ?_))
      clear hK K
      refine vc_nil ?_
      refine hK7 _ _ ?_; clear  hK7 K7
      refine wp_region_lit ?_
      refine vc_y hF rfl rfl (by decide) _ (y_add rfl rfl rfl (IntWalk.i64_in _ (by omega))) (fun a hF => ?_)
      refine vc_y hF rfl rfl (by decide) _ (y_move rfl rfl) (fun a hF => ?_)
      refine vc_nil ?_
      exact ⟨j + 1, by omega, by omega, _, hF.keep [16, 0, 1, 7, 14, 15] rfl, hM6, hFs.push hno, hA6.dropNew (List.nil_sublist _) (one_new (by have := hAr.size; omega))⟩
    · obtain ⟨hij, _, _⟩ := hFs.idx _ hi
      simp only at hij
      have hil : i < ps.length := by omega
      obtain ⟨⟨PB, cB, k⟩, hpi⟩ : ∃ q, ps[i]? = some q := ⟨_, List.getElem?_eq_getElem hil⟩
      obtain ⟨b', o', hpe, _, hcells5⟩ := hP5.1 hne
      cases hpe
      have hcell5 := hcells5 i PB cB k hpi
      obtain ⟨hkc, hBk⟩ := hP5.2 PB cB k (List.mem_of_getElem? hpi)
      have hkl := hl PB cB k (List.mem_of_getElem? hpi)
      have hBl5 := (hP5.2 PA cA l (List.mem_of_getElem? hp)).2
      have htx2 := txOf_at hpi
      refine wp_region_lit ?_
      refine vc_y hF rfl rfl (by decide) _ (y_move rfl rfl) (fun a hF => ?_)
      refine vc_y hF rfl rfl (by decide) _ (y_loadRow rfl hR5 rfl 0 rfl rw36_t3 (by show 0 + 32 ≤ (dc (digOf width ps j)).length; rw [dc_length, hDl]; decide) (new := dc (digOf width ps j)) (by rw [List.drop_zero]; exact List.take_of_length_le (by rw [dc_length, hDl]; exact Nat.le_refl _))) (fun a hF => ?_)
      refine vc_y hF rfl rfl (by decide) _ (y_lookup rfl rfl rfl hr) (fun a hF => ?_)
      refine vc_y hF rfl rfl (by decide) _ (y_move rfl rfl) (fun a hF => ?_)
      refine vc_y hF rfl rfl (by decide) _ (y_extract rfl rfl rfl) (fun a hF => ?_)
      refine vc_y hF rfl rfl (by decide) _ (y_extract rfl rfl rfl) (fun a hF => ?_)
      refine vc_y hF rfl rfl (by decide) _ (y_assign rfl rfl) (fun a hF => ?_)
      refine vc_y hF rfl rfl (by decide) _ (y_assign rfl rfl) (fun a hF => ?_)
      refine vc_nil ?_
      refine hK10 _ _ ?_; clear  hK10 K10
      apply wp_seq_k; intro K12 hK12
      refine wp_region_lit ?_
      refine vc_y hF rfl rfl (by decide) _ (y_move rfl rfl) (fun a hF => ?_)
      refine vc_y hF rfl rfl (by decide) _ (y_not rfl rfl rfl) (fun a hF => ?_)
      refine vc_nil ?_
      refine hK12 _ _ ?_; clear  hK12 K12
      refine vc_false hF rfl ?_
      apply wp_seq_k; intro K13 hK13
      refine wp_region_lit ?_
      refine vc_y hF rfl rfl (by decide) _ (y_move rfl rfl) (fun a hF => ?_)
      refine vc_y hF rfl rfl (by decide) _ (y_move rfl rfl) (fun a hF => ?_)
      refine vc_y hF rfl rfl (by decide) _ (y_ixSl rfl Tryd.underlying35 sz24_t3 rfl rfl i rfl hil (ad2 _ _ _)) (fun a hF => ?_)
      refine vc_y hF rfl rfl (by decide) _ (y_load1 rfl rfl hcell5 no24) (fun a hF => ?_)
      refine vc_y hF rfl rfl (by decide) _ (y_move rfl rfl) (fun a hF => ?_)
      refine vc_op rfl (fun K hK => ws_call hF rfl (by decide) cl66_t3 rfl rfl ?_)
      with_reducible refine (equal_any w5 PB PA k l _ _ cB cA rfl rfl hBk hBl5).mono ?_
      rintro e' w' ⟨rfl, rfl⟩
      refine ⟨_, rfl, fun a hF => hK _ _ ?_⟩; clear hK K
      refine vc_y hF rfl rfl (by decide) _ (y_not rfl rfl rfl) (fun a hF => ?_)
      refine vc_nil ?_
      refine hK13 _ _ ?_; clear  hK13 K13
      by_cases heq : k = l
      · refine vc_falseB hF rfl (by rw [heq, beq_self_eq_true]; rfl) ?_
        apply wp_skip
        refine hK7 _ _ ?_; clear  hK7 K7
        refine wp_region_lit ?_
        refine vc_y hF rfl rfl (by decide) _ (y_add rfl rfl rfl (IntWalk.i64_in _ (by omega))) (fun a hF => ?_)
        refine vc_y hF rfl rfl (by decide) _ (y_move rfl rfl) (fun a hF => ?_)
        refine vc_nil ?_
        exact ⟨j + 1, by omega, by omega, M, hF.keep [16, 0, 1, 7, 14, 15] rfl, hM5, hFs.same hi (by rw [htx2, htx, heq]), hA5e⟩
      · refine vc_trueB hF rfl (by rw [beq_eq_false_iff_ne.2 heq]; rfl) ?_
        apply wp_seq_k; intro K14 hK14
        refine wp_region_lit ?_
        refine vc_y hF rfl rfl (by decide) _ (y_move rfl rfl) (fun a hF => ?_)
        refine vc_y hF rfl rfl (by decide) _ (y_move rfl rfl) (fun a hF => ?_)
        refine vc_y hF rfl rfl (by decide) _ (y_ixSl rfl Tryd.underlying35 sz24_t3 rfl rfl i rfl hil (ad2 _ _ _)) (fun a hF => ?_)
        refine vc_y hF rfl rfl (by decide) _ (y_load1 rfl rfl hcell5 no24) (fun a hF => ?_)
        refine vc_op rfl (fun K hK => ws_call hF rfl (by decide) cl67_t3 rfl rfl ?_)
        with_reducible refine (clone_anyR w5 PB k _ cB rfl hBk (by omega)).mono ?_
        rintro e' w6 ⟨v6, Y6, rfl, hO6, hc6⟩
        refine ⟨_, rfl, fun a hF => hK _ _ ?_⟩; clear hK K
        have hA6 : At w (Y6 ++ []) w6 := hA5e.thenNew hc6 hO6.new
        have hn6 : ∀ r ∈ Y6, w.heap.size ≤ (r : Row).1 := fun r hr => Nat.le_trans hA5e.size (hO6.new r hr)
        refine vc_y hF rfl rfl (by decide) _ (y_move rfl rfl) (fun a hF => ?_)
        refine vc_op rfl (fun K hK => ws_call hF rfl (by decide) cl67_t3 rfl rfl ?_)
        with_reducible refine (clone_anyR w6 PA l _ cA rfl (hBl5.fresh hc6 hO6.new) (by omega)).mono ?_
        rintro e' w7 ⟨v7, Y7, rfl, hO7, hc7⟩
        refine ⟨_, rfl, fun a hF => hK _ _ ?_⟩; clear hK K
        have hA7 : At w (Y7 ++ (Y6 ++ [])) w7 := hA6.thenNew hc7 hO7.new
        rw [List.append_nil] at hA7
        have hO6w := hO6.weaken hA5e.size
        have hO7w := hO7.weaken hA6.size
        refine vc_y hF rfl rfl (by decide) _ (y_assign rfl rfl) (fun a hF => ?_)
        refine vc_y hF rfl rfl (by decide) _ (y_assign rfl rfl) (fun a hF => ?_)
        refine vc_y hF rfl rfl (by decide) _ (y_assign rfl rfl) (fun a hF => ?_)
        refine vc_nil ?_
        refine hK14 _ _ ?_; clear  hK14 K14
        apply wp_ret
        simp only [Exit.then, Exit.inBlock]
        refine vc_ret3 hF Tryd.results26 rfl rfl rfl ?_
        exact .inr ⟨i, j, v6, v7, Y6, Y7, hFs.clash hi (by rw [htx2, htx]; exact heq), hlt, rfl, by rw [htx2]; exact hO6w, by rw [htx]; exact hO7w, hA7⟩
  · obtain rfl : j = ps.length := by omega
    apply wp_seq_k; intro K15 hK15
    refine wp_region_lit ?_
    refine vc_y hF rfl rfl (by decide) _ (y_cmp rfl rfl rfl rfl rfl) (fun a hF => ?_)
    refine vc_nil ?_
    refine hK15 _ _ ?_; clear  hK15 K15
    apply wp_seq_k; intro K16 hK16
    refine vc_falseB hF rfl (lss_f (by omega)) ?_
    apply wp_exit
    refine hK3 _ _ ?_; clear hK16 K16 hK3 K3
    apply wp_seq_k; intro K17 hK17
    refine wp_region_lit ?_
    refine vc_y hF rfl rfl (by decide) _ (y_assign rfl rfl) (fun a hF => ?_)
    refine vc_y hF rfl rfl (by decide) _ (y_assign rfl rfl) (fun a hF => ?_)
    refine vc_y hF rfl rfl (by decide) _ (y_assign rfl rfl) (fun a hF => ?_)
    refine vc_nil ?_
    refine hK17 _ _ ?_; clear  hK17 K17
    apply wp_ret
    refine vc_ret3 hF Tryd.results26 rfl rfl rfl ?_
    exact .inl ⟨hFs.none, rfl, hAr⟩

def txL (ts : List (List UInt8)) (i : Nat) : List UInt8 := (ts[i]?).getD []
def dgL (width : Int) (ts : List (List UInt8)) (i : Nat) : List UInt8 := cutL (sha (txL ts i)) width
theorem txOf_map (ps : List Part) : txOf ps = txL (ps.map (·.2.2)) := by
  funext i; unfold txOf txL; rw [List.getElem?_map]
theorem digOf_map (width : Int) (ps : List Part) : digOf width ps = dgL width (ps.map (·.2.2)) := by
  funext i; unfold digOf dgL; rw [txOf_map]
/-- what Clash says of these texts -/
def ClRes (width : Int) (ts : List (List UInt8)) (b : Bool) (t1 t2 : List UInt8) : Prop :=
  (b = false ∧ t1 = [] ∧ t2 = [] ∧ NoClash (dgL width ts) (txL ts) ts.length) ∨ (b = true ∧ ∃ i j, ClashAt (dgL width ts) (txL ts) i j ∧ j < ts.length ∧ t1 = txL ts i ∧ t2 = txL ts j)
theorem ClRes.one {width : Int} {ts : List (List UInt8)} {b b' : Bool} {t1 t2 u1 u2 : List UInt8} (h : ClRes width ts b t1 t2) (h' : ClRes width ts b' u1 u2) : b = b' ∧ t1 = u1 ∧ t2 = u2 := by
  rcases h with ⟨rfl, rfl, rfl, hn⟩ | ⟨rfl, i, j, hc, hj, rfl, rfl⟩
  · rcases h' with ⟨rfl, rfl, rfl, _⟩ | ⟨rfl, i, j, hc, hj, rfl, rfl⟩
    · exact ⟨rfl, rfl, rfl⟩
    · exact absurd (hn i j (by have := hc.1; omega) hj hc.2.1) hc.2.2.1
  · rcases h' with ⟨rfl, rfl, rfl, hn⟩ | ⟨rfl, i', j', hc', hj', rfl, rfl⟩
    · exact absurd (hn i j (by have := hc.1; omega) hj hc.2.1) hc.2.2.1
    · obtain ⟨a1, a2, a3, a4, a5⟩ := hc
      obtain ⟨b1, b2, b3, b4, b5⟩ := hc'
      have ej : j = j' := by
        rcases Nat.lt_trichotomy j j' with h | h | h
        · exact absurd (b4 i j (by omega) h a2) a3
        · exact h
        · exact absurd (a4 i' j' (by omega) h b2) b3
      subst ej
      have ei : i = i' := by
        rcases Nat.lt_trichotomy i i' with h | h | h
        · exact absurd a2 (b5 i h)
        · exact h
        · exact absurd b2 (a5 i' h)
      subst ei
      exact ⟨rfl, rfl, rfl⟩
theorem pcs_pieces {w0 w : World} {R : List Seg} {pa : Option Addr} {ps : List Piece} (h : PcS w0 R pa ps) (hq : Hq w0 R w) : Pieces w pa ps := by
  refine ⟨fun hne => ?_, fun A c l hm => ⟨(h.2 _ hm).1, (h.2 _ hm).2.bts hq⟩⟩
  obtain ⟨b, o, h1, h2⟩ := h.1 (by simpa using hne)
  refine ⟨b, o, h1, (h2 w hq).1, fun i A c l hi => ?_⟩
  have hlt := (List.getElem?_eq_some_iff.1 hi).1
  rw [(h2 w hq).2 i (by rw [List.length_map]; exact hlt), List.getElem?_map, hi]
  rfl
theorem cs_clash (w0 w : World) (R : List Seg) (width : Int) (pa : Option Addr) (ps : List Piece) (c k : Nat) (hk : k = ps.length) (hT : Tab w0) (hP : PcS w0 R pa ps) (hl : ∀ p ∈ ps, p.2.2.length < 140737488354000) (hnb : ps.length < 9223372036854775807) (hA : Hp w0 R w) : Calls Tryd.prog 26 #[.int .i64 width, .slice pa k c] w fun e w' => ∃ v1 v2 b t1 t2 Z1 Z2, e = .returned (.tuple #[v1, v2, .bool b]) ∧ ClRes width (ps.map (·.2.2)) b t1 t2 ∧ Buf 5 1 Z1 v1 t1.length (dc t1) ∧ Buf 5 1 Z2 v2 t2.length (dc t2) ∧ (t1.length < 140737488354000 ∧ t2.length < 140737488354000) ∧ Hp w0 (Z2 :: Z1 :: R) w' := by
  subst hk
  have htl : ∀ i, (txL (ps.map (·.2.2)) i).length < 140737488354000 := fun i => by
    unfold txL
    cases h : (ps.map (·.2.2))[i]? with
    | none => exact (by decide : (0 : Nat) < 140737488354000)
    | some l =>
      obtain ⟨p, hp, rfl⟩ := List.mem_map.1 (List.mem_of_getElem? h)
      exact hl p hp
  refine (clash_anyR w width pa ps c ps.length rfl (pcs_pieces hP hA.q) (fun A c l h => hl _ h) hnb (hT.hp hA)).mono ?_
  rintro e w' (⟨h1, rfl, h3⟩ | ⟨i, j, v1, v2, Y1, Y2, h1, h2, rfl, h4, h5, h6⟩)
  · exact ⟨_, _, false, [], [], [], [], rfl, .inl ⟨rfl, rfl, rfl, by rw [← digOf_map, ← txOf_map, List.length_map]; exact h1⟩, Buf.nil _ _, Buf.nil _ _, ⟨by decide, by decide⟩, Hp.nil (Hp.nil (hA.then0 h3))⟩
  · have hm : Hp w0 (its (Y2 ++ Y1) :: R) w' := hA.thenNew h6 (fun r hr => by
      rcases List.mem_append.1 hr with h | h
      · exact h5.2 r h
      · exact h4.2 r h)
    refine ⟨v1, v2, true, txOf ps i, txOf ps j, its Y1, its Y2, rfl, .inr ⟨rfl, i, j, by rw [← digOf_map, ← txOf_map]; exact h1, by rw [List.length_map]; exact h2, by rw [txOf_map], by rw [txOf_map]⟩, h4.1, h5.1, ⟨by rw [txOf_map]; exact htl i, by rw [txOf_map]; exact htl j⟩, ?_⟩
    exact hm.cast (by rw [its_map, its_map, its_map, List.map_append]; simp)
end Go.Proofs.YtpomngkcfbnjoaaDoor
