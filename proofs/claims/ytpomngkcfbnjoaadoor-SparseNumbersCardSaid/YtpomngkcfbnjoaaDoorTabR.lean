/- The reference's side of the digest's table. -/
import Derived.Test.YtpomngkcfbnjoaaDoorTab4
namespace Go.Proofs.YtpomngkcfbnjoaaDoor
open Go.RowKit Go.Dk

theorem cut_step {D : List UInt8} (hD : D.length = 32) {k i : Nat} (hk : k ≤ i) (hi : i < 32) : (dc (D.take k ++ List.replicate (i - k) 0 ++ D.drop i)).set i (.int .u8 0) = dc (D.take k ++ List.replicate (i + 1 - k) 0 ++ D.drop (i + 1)) := by
  have hl : (D.take k ++ List.replicate (i - k) (0 : UInt8)).length = i := by simp [hD]; omega
  rw [List.drop_eq_getElem_cons (show i < D.length by omega), dc_append, List.set_append, if_neg (by rw [dc_length, hl]; omega), dc_length, hl, Nat.sub_self]
  rw [show i + 1 - k = (i - k) + 1 by omega, List.replicate_succ', dc_append, dc_append, dc_append, dc_append]
  simp [dc]
  rw [List.drop_eq_getElem_cons (by simp; omega)]
  rfl
theorem cut_all {D : List UInt8} (hD : D.length = 32) (k : Nat) : D.take k ++ List.replicate (k - k) 0 ++ D.drop k = D := by simp
theorem rw36_tr : isRow Tryd.prog 23 32 = true := by kernel_rfl
theorem sz3_tr : (Tryd.prog.info? 3).map (·.size) = some 1 := by kernel_rfl
theorem sz5_tr : (Tryd.prog.info? 5).map (·.size) = some 1 := by kernel_rfl
theorem sz24_tr : (Tryd.prog.info? 59).map (·.size) = some 1 := by kernel_rfl
theorem sz36_tr : (Tryd.prog.info? 23).map (·.size) = some 32 := by kernel_rfl
theorem cl19_tr : CallsTo Tryd.prog 51 := ⟨_, Tryd.func51, by kernel_rfl, by kernel_rfl⟩
theorem cl50_tr : CallsTo Tryd.prog 48 := ⟨_, Tryd.func48, by kernel_rfl, by kernel_rfl⟩
theorem cl52_tr : CallsTo Tryd.prog 77 := ⟨_, Tryd.func77, by kernel_rfl, by kernel_rfl⟩
theorem cl68_tr : CallsTo Tryd.prog 50 := ⟨_, Tryd.func50, by kernel_rfl, by kernel_rfl⟩
theorem cl73_tr : CallsTo Tryd.prog 49 := ⟨_, Tryd.func49, by kernel_rfl, by kernel_rfl⟩

set_option maxRecDepth 100000 in
set_option maxHeartbeats 1000000 in
theorem rcut_any (D : List UInt8) (m : Int) (w : World) (hD : D.length = 32) :
    Calls Tryd.prog 50 #[.agg (dc D).toArray, .int .i64 m] w fun e w' => e = .returned (.agg (dc (cutL D m)).toArray) ∧ At w [] w' := by
  have hA0 := At.refl w
  obtain ⟨z, hz⟩ : ∃ z : Int, z = max m 1 := ⟨_, rfl⟩
  refine vc_enter Tryd.func50 rfl Tryd.ntmps50 (Nat.le_of_ble_eq_true rfl) (fun a hF => ?_)
  apply wp_seq_k; intro K1 hK1
  refine wp_region_lit ?_
  refine vc_op rfl (fun K hK => ws_box (cs := dc D) hF rfl (by decide) rfl hA0 rfl (fun b2 w1 a hb2 hF hA1 => hK _ _ ?_))
  clear hK K
  refine vc_op rfl (fun K hK => ws_alloc hF rfl (by decide) rfl hA1 zero36 (fun b4 w2 a hb4 hF hA2 => hK _ _ ?_))
  clear hK K
  replace hA2 : At w [(b4, 23, dc (List.replicate 32 0)), (b2, 23, dc D)] w2 := hA2
  refine vc_nil ?_
  refine hK1 _ _ ?_; clear  hK1 K1
  apply wp_seq_k; intro K2 hK2
  apply wp_seq_k; intro K3 hK3
  refine wp_region_lit ?_
  refine vc_y hF rfl rfl (by decide) _ (y_move rfl rfl) (fun a hF => ?_)
  refine vc_y hF rfl rfl (by decide) _ (y_cmp rfl rfl rfl rfl rfl) (fun a hF => ?_)
  refine vc_nil ?_
  refine hK3 _ _ ?_; clear  hK3 K3
  have meet : ∀ (a : Act) (x : World), Fr 16 [(1, .int .i64 z), (2, .pointer (some ⟨b2, 0, none⟩)), (4, .pointer (some ⟨b4, 0, none⟩))] a → At w [(b4, 23, dc (List.replicate 32 0)), (b2, 23, dc D)] x → K2 a x := by
    clear hF
    intro a w2 hF hA2
    refine hK2 _ _ ?_; clear  hK2 K2
    apply wp_seq_k; intro K4 hK4
    apply wp_seq_k; intro K5 hK5
    refine wp_region_lit ?_
    refine vc_y hF rfl rfl (by decide) _ (y_move rfl rfl) (fun a hF => ?_)
    refine vc_y hF rfl rfl (by decide) _ (y_assign rfl rfl) (fun a hF => ?_)
    refine vc_nil ?_
    refine hK5 _ _ ?_; clear  hK5 K5
    apply wp_block
    by_cases hbig : 32 ≤ z
    · have hfin : cutL D m = D := by
        have hk : kept m = 32 := by unfold kept; omega
        rw [cutL, hk, List.take_of_length_le (by omega)]
        simp
      refine vc_loop (G := Unit) (fun _ a x => Fr 16 [(5, .int .i64 z), (2, .pointer (some ⟨b2, 0, none⟩)), (4, .pointer (some ⟨b4, 0, none⟩))] a ∧ At w [(b4, 23, dc (List.replicate 32 0)), (b2, 23, dc D)] x) (fun _ => 0) () ⟨hF.keep [5, 2, 4] rfl, hA2⟩ ?_
      clear hF hA2
      rintro _ a wr ⟨hF, hAr⟩
      apply wp_seq_k; intro K6 hK6
      apply wp_seq_k; intro K7 hK7
      refine wp_region_lit ?_
      refine vc_y hF rfl rfl (by decide) _ (y_move rfl rfl) (fun a hF => ?_)
      refine vc_y hF rfl rfl (by decide) _ (y_cmp rfl rfl rfl rfl rfl) (fun a hF => ?_)
      refine vc_nil ?_
      refine hK7 _ _ ?_; clear  hK7 K7
      refine vc_falseB hF rfl (lss_f hbig) ?_
      apply wp_exit
      refine hK4 _ _ ?_; clear hK6 K6 hK4 K4
      apply wp_seq_k; intro K8 hK8
      refine wp_region_lit ?_
      refine vc_y hF rfl rfl (by decide) _ (y_loadRow rfl hAr rfl 1 rfl rw36_tr (by show 0 + 32 ≤ (dc D).length; rw [dc_length, ← hfin, cutL_length _ _ hD]; decide) (new := dc (cutL D m)) (by rw [List.drop_zero, hfin]; exact List.take_of_length_le (by rw [dc_length, ← hfin, cutL_length _ _ hD]; exact Nat.le_refl _))) (fun a hF => ?_)
      refine vc_op rfl (fun K hK => ws_storeAll hF rfl rfl hAr rfl rfl 0 rfl (tb_z (cutL_length _ _ hD)) (dc_one _) tb_s (fun w5 hA5 => hK _ _ ?_))
      clear hK K
      refine vc_nil ?_
      refine hK8 _ _ ?_; clear  hK8 K8
      apply wp_ret
      refine vc_retc hF Tryd.results50 hA5 rfl 0 rfl (tb_row36 (cutL_length _ _ hD)) ?_
      exact ⟨rfl, hA5.clear (cons_new (by have := hA1.size; omega) (one_new hb2))⟩
    · obtain ⟨k, hkz⟩ : ∃ k : Nat, z = (k : Int) := ⟨z.toNat, by omega⟩
      subst hkz
      have hk32 : k < 32 := by omega
      have hkk : kept m = k := by unfold kept; omega
      refine vc_loop (G := Nat) (fun i a x => k ≤ i ∧ i ≤ 32 ∧ Fr 16 [(5, .int .i64 (i : Int)), (2, .pointer (some ⟨b2, 0, none⟩)), (4, .pointer (some ⟨b4, 0, none⟩))] a ∧ At w [(b4, 23, dc (List.replicate 32 0)), (b2, 23, dc (D.take k ++ List.replicate (i - k) 0 ++ D.drop i))] x) (fun i => 32 - i) k ⟨Nat.le_refl _, by omega, hF.keep [5, 2, 4] rfl, by rw [cut_all hD]; exact hA2⟩ ?_
      clear hF
      rintro i a wr ⟨hki, hi32, hF, hAr⟩
      by_cases hi : i < 32
      · apply wp_seq_k; intro K9 hK9
        apply wp_seq_k; intro K10 hK10
        refine wp_region_lit ?_
        refine vc_y hF rfl rfl (by decide) _ (y_move rfl rfl) (fun a hF => ?_)
        refine vc_y hF rfl rfl (by decide) _ (y_cmp rfl rfl rfl rfl rfl) (fun a hF => ?_)
        refine vc_nil ?_
        refine hK10 _ _ ?_; clear  hK10 K10
        refine vc_trueB hF rfl (lss_t (by omega)) ?_
        apply wp_skip
        refine hK9 _ _ ?_; clear  hK9 K9
        apply wp_seq_k; intro K11 hK11
        apply wp_block
        refine wp_region_lit ?_
        refine vc_y hF rfl rfl (by decide) _ (y_move rfl rfl) (fun a hF => ?_)
        refine vc_y hF rfl rfl (by decide) _ (y_ixArr rfl Tryd.underlying23 sz5_tr rfl rfl i rfl (by omega) (ad1 _ _) (rfl : (none : Option Nat) = none)) (fun a hF => ?_)
        refine vc_op rfl (fun K hK => ws_store1 hF rfl rfl hAr rfl rfl 1 rfl (by rw [dc_length]; simp [hD]; omega) rfl sz5_tr (fun w3 hA3 => hK _ _ ?_))
        clear hK K
        replace hA3 : At w [(b4, 23, dc (List.replicate 32 0)), (b2, 23, dc (D.take k ++ List.replicate (i + 1 - k) 0 ++ D.drop (i + 1)))] w3 := by have h := hA3; simp only [List.set_cons_succ, List.set_cons_zero] at h; rw [cut_step hD hki hi] at h; exact h
        refine vc_nil ?_
        refine hK11 _ _ ?_; clear  hK11 K11
        refine wp_region_lit ?_
        refine vc_y hF rfl rfl (by decide) _ (y_move rfl rfl) (fun a hF => ?_)
        refine vc_y hF rfl rfl (by decide) _ (y_add rfl rfl rfl (show IntKind.i64.wrap ((i : Int) + 1) = ((i + 1 : Nat) : Int) by rw [IntWalk.i64_in _ (by omega)]; omega)) (fun a hF => ?_)
        refine vc_y hF rfl rfl (by decide) _ (y_assign rfl rfl) (fun a hF => ?_)
        refine vc_nil ?_
        exact ⟨i + 1, by omega, by omega, by omega, hF.keep [5, 2, 4] rfl, hA3⟩
      · obtain rfl : i = 32 := by omega
        have hfin : cutL D m = D.take k ++ List.replicate (32 - k) 0 ++ D.drop 32 := by
          rw [cutL, hkk, List.drop_eq_nil_iff.2 (by omega), List.append_nil]
        apply wp_seq_k; intro K12 hK12
        apply wp_seq_k; intro K13 hK13
        refine wp_region_lit ?_
        refine vc_y hF rfl rfl (by decide) _ (y_move rfl rfl) (fun a hF => ?_)
        refine vc_y hF rfl rfl (by decide) _ (y_cmp rfl rfl rfl rfl rfl) (fun a hF => ?_)
        refine vc_nil ?_
        refine hK13 _ _ ?_; clear  hK13 K13
        refine vc_falseB hF rfl (lss_f (by omega)) ?_
        apply wp_exit
        refine hK4 _ _ ?_; clear hK12 K12 hK4 K4
        apply wp_seq_k; intro K14 hK14
        refine wp_region_lit ?_
        refine vc_y hF rfl rfl (by decide) _ (y_loadRow rfl hAr rfl 1 rfl rw36_tr (by show 0 + 32 ≤ (dc (D.take k ++ List.replicate (32 - k) 0 ++ D.drop 32)).length; rw [dc_length, ← hfin, cutL_length _ _ hD]; decide) (new := dc (cutL D m)) (by rw [List.drop_zero, hfin]; exact List.take_of_length_le (by rw [dc_length, ← hfin, cutL_length _ _ hD]; exact Nat.le_refl _))) (fun a hF => ?_)
        refine vc_op rfl (fun K hK => ws_storeAll hF rfl rfl hAr rfl rfl 0 rfl (tb_z (cutL_length _ _ hD)) (dc_one _) tb_s (fun w5 hA5 => hK _ _ ?_))
        clear hK K
        refine vc_nil ?_
        refine hK14 _ _ ?_; clear  hK14 K14
        apply wp_ret
        refine vc_retc hF Tryd.results50 hA5 rfl 0 rfl (tb_row36 (cutL_length _ _ hD)) ?_
        exact ⟨rfl, hA5.clear (cons_new (by have := hA1.size; omega) (one_new hb2))⟩
  by_cases hm : m < 1
  · refine vc_trueB hF rfl (lss_t hm) ?_
    refine wp_region_lit ?_
    refine vc_y hF rfl rfl (by decide) _ (y_assign rfl rfl) (fun a hF => ?_)
    refine vc_nil ?_
    have hz1 : z = 1 := by omega
    rw [← hz1] at hF
    exact meet _ _ (hF.keep [1, 2, 4] rfl) hA2
  · refine vc_falseB hF rfl (lss_f (by omega)) ?_
    apply wp_skip
    have hz1 : z = m := by omega
    rw [← hz1] at hF
    exact meet _ _ (hF.keep [1, 2, 4] rfl) hA2

set_option maxRecDepth 100000 in
set_option maxHeartbeats 1000000 in
theorem rtext_any (w : World) (dom : UInt8) (di : Int) (hdi : IntKind.u8.wrap di = (dom.toNat : Int)) (pa : Option Addr) (ps : List Part) (c n : Nat) (hn : n = ps.length) (hP : Pieces w pa ps) (hlen : (flat ps).length < 140737488353000) (hnb : n < 9223372036854775807) :
    Calls Tryd.prog 48 #[.int .i64 di, .slice pa n c] w fun e w' => ∃ v Y, e = .returned v ∧ Own w 5 1 Y v (dom :: flat ps).length (dc (dom :: flat ps)) ∧ At w Y w' := by
  subst hn
  have hA0 := At.refl w
  have hfl : ∀ j, (flat (ps.take j)).length ≤ (flat ps).length := fun j => by
    have h2 : flat ps = flat (ps.take j) ++ flat (ps.drop j) := by unfold flat; rw [← List.flatMap_append, List.take_append_drop]
    rw [h2, List.length_append]; omega
  refine vc_enter Tryd.func48 rfl Tryd.ntmps48 (Nat.le_of_ble_eq_true rfl) (fun a hF => ?_)
  apply wp_seq_k; intro K1 hK1
  refine wp_region_lit ?_
  refine vc_y hF rfl rfl (by decide) _ (y_assign rfl rfl) (fun a hF => ?_)
  refine vc_nil ?_
  refine hK1 _ _ ?_; clear  hK1 K1
  apply wp_seq_k; intro K2 hK2
  refine wp_region_lit ?_
  refine vc_y hF rfl rfl (by decide) _ (y_move rfl rfl) (fun a hF => ?_)
  refine vc_y hF rfl rfl (by decide) _ (y_conv rfl Tryd.underlying3 Tryd.underlying5 rfl hdi) (fun a hF => ?_)
  refine vc_op rfl (fun K hK => ws_byte1 hF rfl (by decide) rfl hA0 dom rfl build_byte (fun g w1 a hg hF hA1 => hK _ _ ?_))
  clear hK K
  have hO1 : Own w 5 1 [(g, 5, dc [dom])] (.slice (some ⟨g, 0, none⟩) 1 1) (dom :: flat (ps.take 0)).length (dc (dom :: flat (ps.take 0))) := ⟨rfl, .inr ⟨g, 1, [], rfl, Nat.le_refl _, hg, rfl, rfl⟩⟩
  refine vc_y hF rfl rfl (by decide) _ (y_assign rfl rfl) (fun a hF => ?_)
  refine vc_nil ?_
  refine hK2 _ _ ?_; clear  hK2 K2
  apply wp_seq_k; intro K3 hK3
  apply wp_seq_k; intro K4 hK4
  refine wp_region_lit ?_
  refine vc_y hF rfl rfl (by decide) _ (y_assign rfl rfl) (fun a hF => ?_)
  refine vc_nil ?_
  refine hK4 _ _ ?_; clear  hK4 K4
  apply wp_block
  refine vc_loop (G := Nat) (fun i a x => i ≤ ps.length ∧ ∃ (vo : Value) (X : List Row), Fr 23 [(6, .int .i64 (i : Int)), (1, .slice pa ps.length c), (5, vo)] a ∧ Own w 5 1 X vo (dom :: flat (ps.take i)).length (dc (dom :: flat (ps.take i))) ∧ At w X x) (fun i => ps.length - i) 0 ⟨Nat.zero_le _, _, _, hF.keep [6, 1, 5] rfl, hO1, hA1⟩ ?_
  clear hF
  rintro i a wr ⟨hi, vo, X, hF, hO, hAr⟩
  by_cases hlt : i < ps.length
  · have hPr := hP.fresh hAr hO.new
    have hne : ps ≠ [] := fun e => by rw [e] at hlt; exact absurd hlt (Nat.not_lt_zero _)
    obtain ⟨b, o, rfl, hbl, hcells⟩ := hPr.1 hne
    obtain ⟨⟨A, cA, l⟩, hp⟩ : ∃ q, ps[i]? = some q := ⟨_, List.getElem?_eq_getElem hlt⟩
    have hcell := hcells i A cA l hp
    obtain ⟨hlc, hBl⟩ := hPr.2 A cA l (List.mem_of_getElem? hp)
    have hft := flat_take hp
    have hfle := flat_le hp
    apply wp_seq_k; intro K5 hK5
    apply wp_seq_k; intro K6 hK6
    refine wp_region_lit ?_
    refine vc_y hF rfl rfl (by decide) _ (y_move rfl rfl) (fun a hF => ?_)
    refine vc_y hF rfl rfl (by decide) _ (y_move rfl rfl) (fun a hF => ?_)
    refine vc_y hF rfl rfl (by decide) _ (y_lenSl rfl Tryd.underlying35 rfl rfl) (fun a hF => ?_)
    refine vc_y hF rfl rfl (by decide) _ (y_cmp rfl rfl rfl rfl rfl) (fun a hF => ?_)
    refine vc_nil ?_
    refine hK6 _ _ ?_; clear  hK6 K6
    refine vc_trueB hF rfl (lss_t (by omega)) ?_
    apply wp_skip
    refine hK5 _ _ ?_; clear  hK5 K5
    apply wp_seq_k; intro K7 hK7
    apply wp_block
    refine wp_region_lit ?_
    refine vc_y hF rfl rfl (by decide) _ (y_move rfl rfl) (fun a hF => ?_)
    refine vc_y hF rfl rfl (by decide) _ (y_move rfl rfl) (fun a hF => ?_)
    refine vc_y hF rfl rfl (by decide) _ (y_move rfl rfl) (fun a hF => ?_)
    refine vc_y hF rfl rfl (by decide) _ (y_ixSl rfl Tryd.underlying35 sz24_tr rfl rfl i rfl hlt (ad2 _ _ _)) (fun a hF => ?_)
    refine vc_y hF rfl rfl (by decide) _ (y_load1 rfl rfl hcell no24) (fun a hF => ?_)
    refine vc_op rfl (fun K hK => ws_own hF rfl (by decide) rfl [] (X := X) hAr hO Tryd.underlying59 ow_elem5 rfl rfl (Bts.src Tryd.underlying59 hBl) (by simp only [List.length_cons]; omega) (by decide) (fun v2 X2 w2 a hO2 hF hA2 => hK _ _ ?_))
    clear hK K
    have e2 : (dom :: flat (ps.take i)).length + l.length = (dom :: flat (ps.take (i + 1))).length := by rw [hft]; simp; omega
    rw [← dc_append, e2, List.cons_append, ← hft] at hO2
    refine vc_y hF rfl rfl (by decide) _ (y_assign rfl rfl) (fun a hF => ?_)
    refine vc_nil ?_
    refine hK7 _ _ ?_; clear  hK7 K7
    refine wp_region_lit ?_
    refine vc_y hF rfl rfl (by decide) _ (y_move rfl rfl) (fun a hF => ?_)
    refine vc_y hF rfl rfl (by decide) _ (y_add rfl rfl rfl (IntWalk.i64_in _ (by omega))) (fun a hF => ?_)
    refine vc_y hF rfl rfl (by decide) _ (y_assign rfl rfl) (fun a hF => ?_)
    refine vc_nil ?_
    exact ⟨i + 1, by omega, by omega, v2, X2, hF.keep [6, 1, 5] rfl, hO2, hA2⟩
  · obtain rfl : i = ps.length := by omega
    rw [flat_all] at hO
    apply wp_seq_k; intro K8 hK8
    apply wp_seq_k; intro K9 hK9
    refine wp_region_lit ?_
    refine vc_y hF rfl rfl (by decide) _ (y_move rfl rfl) (fun a hF => ?_)
    refine vc_y hF rfl rfl (by decide) _ (y_move rfl rfl) (fun a hF => ?_)
    refine vc_y hF rfl rfl (by decide) _ (y_lenSl rfl Tryd.underlying35 rfl rfl) (fun a hF => ?_)
    refine vc_y hF rfl rfl (by decide) _ (y_cmp rfl rfl rfl rfl rfl) (fun a hF => ?_)
    refine vc_nil ?_
    refine hK9 _ _ ?_; clear  hK9 K9
    refine vc_falseB hF rfl (lss_f (by omega)) ?_
    apply wp_exit
    refine hK3 _ _ ?_; clear hK8 K8 hK3 K3
    apply wp_seq_k; intro K10 hK10
    refine wp_region_lit ?_
    refine vc_y hF rfl rfl (by decide) _ (y_move rfl rfl) (fun a hF => ?_)
    refine vc_y hF rfl rfl (by decide) _ (y_assign rfl rfl) (fun a hF => ?_)
    refine vc_nil ?_
    refine hK10 _ _ ?_; clear  hK10 K10
    apply wp_ret
    refine vc_ret1 hF Tryd.results48 rfl ?_
    exact ⟨vo, X, rfl, hO, hAr⟩

set_option maxRecDepth 100000 in
set_option maxHeartbeats 1000000 in
theorem rof_all (w : World) (width : Int) (dom : UInt8) (di : Int) (hdi : IntKind.u8.wrap di = (dom.toNat : Int)) (pa : Option Addr) (ps : List Part) (c n : Nat) (hn : n = ps.length) (hP : Pieces w pa ps) (hlen : (flat ps).length < 140737488353000) (hnb : n < 9223372036854775807) :
    Calls Tryd.prog 77 #[.int .i64 width, .int .i64 di, .slice pa n c] w fun e w' => e = .returned (.agg (dc (ofL width dom (flat ps))).toArray) ∧ At w [] w' := by
  have hA0 := At.refl w
  refine vc_enter Tryd.func77 rfl Tryd.ntmps77 (Nat.le_of_ble_eq_true rfl) (fun a hF => ?_)
  apply wp_seq_k; intro K1 hK1
  refine wp_region_lit ?_
  refine vc_op rfl (fun K hK => ws_alloc hF rfl (by decide) rfl hA0 zero36 (fun b2 w1 a hb2 hF hA1 => hK _ _ ?_))
  clear hK K
  refine vc_nil ?_
  refine hK1 _ _ ?_; clear  hK1 K1
  apply wp_seq_k; intro K2 hK2
  refine wp_region_lit ?_
  refine vc_y hF rfl rfl (by decide) _ (y_move rfl rfl) (fun a hF => ?_)
  refine vc_y hF rfl rfl (by decide) _ (y_move rfl rfl) (fun a hF => ?_)
  refine vc_op rfl (fun K hK => ws_call hF rfl (by decide) cl50_tr rfl rfl ?_)
  with_reducible refine (rtext_any w1 dom di hdi pa ps c n hn (hP.fresh hA1 (one_new hb2)) hlen hnb).mono ?_
  rintro e' w2 ⟨v2, Y, rfl, hO, hc2⟩
  refine ⟨_, rfl, fun a hF => hK _ _ ?_⟩; clear hK K
  have hOn := hO.new
  obtain ⟨_, A2, c2, rfl, hc2l, hB2⟩ := own_parts hO
  have hBw := hB2 [] w2 hc2
  have hA2 : At w (Y ++ [(b2, 23, dc (List.replicate 32 0))]) w2 := hA1.thenNew hc2 hOn
  have hA2 : At w [(b2, 23, dc (List.replicate 32 0))] w2 := hA2.drop (List.sublist_append_right _ _) (fun r hr hlt => by
    rcases List.mem_append.1 hr with hr | hr
    · have := hOn r hr; have := hA1.size; omega
    · exact hr)
  refine vc_op rfl (fun K hK => ws_call hF rfl (by decide) cl19_tr rfl rfl ?_)
  with_reducible refine (refsum_any w2 A2 (dom :: flat ps) c2 _ rfl hBw (by simp only [List.length_cons]; omega)).mono ?_
  rintro e' w3 ⟨rfl, hc3⟩
  refine ⟨_, rfl, fun a hF => hK _ _ ?_⟩; clear hK K
  have hA3 := hA2.then0 hc3
  refine vc_y hF rfl rfl (by decide) _ (y_move rfl rfl) (fun a hF => ?_)
  refine vc_op rfl (fun K hK => ws_call hF rfl (by decide) cl68_tr rfl rfl ?_)
  with_reducible refine (rcut_any _ width w3 (sha_length _)).mono ?_
  rintro e' w4 ⟨rfl, hc4⟩
  refine ⟨_, rfl, fun a hF => hK _ _ ?_⟩; clear hK K
  have hA4 := hA3.then0 hc4
  refine vc_op rfl (fun K hK => ws_storeAll hF rfl rfl hA4 rfl rfl 0 rfl (tb_z (cutL_length _ _ (sha_length _))) (dc_one _) tb_s (fun w5 hA5 => hK _ _ ?_))
  clear hK K
  refine vc_nil ?_
  refine hK2 _ _ ?_; clear  hK2 K2
  apply wp_ret
  refine vc_retc hF Tryd.results77 hA5 rfl 0 rfl (tb_row36 (cutL_length _ _ (sha_length _))) ?_
  exact ⟨rfl, hA5.clear (one_new hb2)⟩

set_option maxRecDepth 100000 in
set_option maxHeartbeats 1000000 in
theorem rbranch_any (w : World) (width : Int) (X Y : List UInt8) (hX : X.length = 32) (hY : Y.length = 32) :
    Calls Tryd.prog 78 #[.int .i64 width, .agg (dc X).toArray, .agg (dc Y).toArray] w fun e w' => e = .returned (.agg (dc (ofL width 4 (X ++ Y))).toArray) ∧ At w [] w' := by
  have hA0 := At.refl w
  refine vc_enter Tryd.func78 rfl Tryd.ntmps78 (Nat.le_of_ble_eq_true rfl) (fun a hF => ?_)
  apply wp_seq_k; intro K1 hK1
  refine wp_region_lit ?_
  refine vc_op rfl (fun K hK => ws_box (cs := dc X) hF rfl (by decide) rfl hA0 rfl (fun b2 w1 a hb2 hF hA1 => hK _ _ ?_))
  clear hK K
  refine vc_op rfl (fun K hK => ws_box (cs := dc Y) hF rfl (by decide) rfl hA1 rfl (fun b3 w2 a hb3 hF hA2 => hK _ _ ?_))
  clear hK K
  have q3 : w.heap.size ≤ b3 := by have := hA1.size; omega
  refine vc_op rfl (fun K hK => ws_alloc hF rfl (by decide) rfl hA2 zero36 (fun b4 w3 a hb4 hF hA3 => hK _ _ ?_))
  clear hK K
  replace hA3 : At w [(b4, 23, dc (List.replicate 32 0)), (b3, 23, dc Y), (b2, 23, dc X)] w3 := hA3
  refine vc_nil ?_
  refine hK1 _ _ ?_; clear  hK1 K1
  apply wp_seq_k; intro K2 hK2
  refine wp_region_plan 4 [3,4,5] [0,1,2,3,4,5] (fun _ => True) (by kernel_rfl) (by kernel_rfl) (trivial) ?_
  refine vp_y hF rfl rfl rfl rfl (by decide) _ (fun x hx => y_move rfl rfl) (fun a hF => ?_)
  refine vp_y hF rfl rfl rfl rfl (by decide) _ (fun x hx => y_sliceArr rfl Tryd.underlying23 ow_size5 rfl (.none 0) (.none 32) (by omega) (by omega) slice_to) (fun a hF => ?_)
  refine vp_y hF rfl rfl rfl rfl (by decide) _ (fun x hx => y_sliceArr rfl Tryd.underlying23 ow_size5 rfl (.none 0) (.none 32) (by omega) (by omega) slice_to) (fun a hF => ?_)
  refine vp_l rfl rfl rfl (fun K hK => ws_bs2 hF rfl (by decide) rfl hA3.drew rfl rfl (tb_part2 _ _ _ _ _ _) (fun b5 w4 a hb5 hF hA4 => hK _ _ (fun _ => trivial) ?_))
  clear hK K
  have q4 : w.heap.size ≤ b4 := by have := hA2.size; omega
  have hnr : ∀ r ∈ [((b5, 59, [.slice (some ⟨b2, 0, none⟩) 32 32, .slice (some ⟨b3, 0, none⟩) 32 32]) : Row), (b4, 23, dc (List.replicate 32 0)), (b3, 23, dc Y), (b2, 23, dc X)], w.heap.size ≤ r.1 := cons_new (by have := hA3.drew.size; omega) (cons_new q4 (cons_new q3 (one_new hb2)))
  have hP : Pieces w4 (some ⟨b5, 0, none⟩) [(some ⟨b2, 0, none⟩, 32, X), (some ⟨b3, 0, none⟩, 32, Y)] := Pieces.row hA4 (k := 0) (by rw [List.map_cons, List.map_cons, hX, hY]; rfl) (fun A' c' l' h => by
    rcases List.mem_cons.1 h with h | h
    · obtain ⟨rfl, rfl, rfl⟩ : A' = some ⟨b2, 0, none⟩ ∧ c' = 32 ∧ l' = X := by simpa using h
      exact ⟨by omega, tb_arr hX hA4 (k := 3) rfl⟩
    · obtain ⟨rfl, rfl, rfl⟩ : A' = some ⟨b3, 0, none⟩ ∧ c' = 32 ∧ l' = Y := by simpa using h
      exact ⟨by omega, tb_arr hY hA4 (k := 2) rfl⟩)
  refine vp_l rfl rfl rfl (fun K hK => ws_call hF rfl (by decide) cl52_tr rfl rfl ?_)
  with_reducible refine (rof_all w4 width 4 4 rfl (some ⟨b5, 0, none⟩) _ 2 2 rfl hP (by rw [flat_two, List.length_append]; omega) (by decide)).mono ?_
  rintro e' w5 ⟨rfl, hc5⟩
  refine ⟨_, rfl, fun a hF => hK _ _ (fun h => absurd h (by decide)) ?_⟩; clear hK K
  have hA5 := hA4.then0 hc5
  clear hc5
  rw [flat_two] at hF
  refine vp_l rfl rfl rfl (fun K hK => ws_storeAll hF rfl rfl hA5 rfl rfl 1 rfl (tb_z (ofL_length _ _ _)) (dc_one _) tb_s (fun w6 hA6 => hK _ _ (fun h => absurd h (by decide)) ?_))
  clear hK K
  refine plan_end ?_
  refine hK2 _ _ ?_; clear  hK2 K2
  apply wp_ret
  refine vc_retc hF Tryd.results78 hA6 rfl 1 rfl (tb_row36 (ofL_length _ _ _)) ?_
  exact ⟨rfl, hA6.clear (cons_new (by have := hA3.drew.size; omega) (cons_new q4 (cons_new q3 (one_new hb2))))⟩

set_option maxRecDepth 100000 in
set_option maxHeartbeats 1000000 in
theorem rkey_any (w : World) (s : ByteArray) (hl : s.size < 140737488355000) :
    Calls Tryd.prog 21 #[.string s] w fun e w' => e = .returned (.agg (dc (sha (6 :: s.data.toList))).toArray) ∧ At w [] w' := by
  have hA0 := At.refl w
  have hsz : s.data.toList.length = s.size := Array.length_toList
  refine vc_enter Tryd.func21 rfl Tryd.ntmps21 (Nat.le_of_ble_eq_true rfl) (fun a hF => ?_)
  apply wp_seq_k; intro K1 hK1
  refine wp_region_lit ?_
  refine vc_op rfl (fun K hK => ws_alloc hF rfl (by decide) rfl hA0 zero36 (fun b2 w1 a hb2 hF hA1 => hK _ _ ?_))
  clear hK K
  refine vc_nil ?_
  refine hK1 _ _ ?_; clear  hK1 K1
  apply wp_seq_k; intro K2 hK2
  refine wp_region_lit ?_
  refine vc_op rfl (fun K hK => ws_byte1 hF rfl (by decide) rfl hA1 6 rfl build_byte (fun g w2 a hg hF hA2 => hK _ _ ?_))
  clear hK K
  have hO2 : Own w 5 1 [(g, 5, dc [6])] (.slice (some ⟨g, 0, none⟩) 1 1) 1 (dc [6]) := ⟨rfl, .inr ⟨g, 1, [], rfl, Nat.le_refl _, by have := hA1.size; omega, rfl, rfl⟩⟩
  refine vc_y hF rfl rfl (by decide) _ (y_move rfl rfl) (fun a hF => ?_)
  refine vc_op rfl (fun K hK => ws_own hF rfl (by decide) rfl [(b2, 23, dc (List.replicate 32 0))] (X := [(g, 5, dc [6])]) (hA2.perm (List.Perm.swap _ _ _)) hO2 Tryd.underlying59 ow_elem5 rfl rfl (Src.ofString _ Tryd.underlying9 s) (by omega) (by decide) (fun v2 Y w3 a hO3 hF hA3 => hK _ _ ?_))
  clear hK K
  rw [byteCells_dc, ← dc_append] at hO3
  have hOn := hO3.new
  obtain ⟨hn3, A3, c3, rfl, hc3, hB3⟩ := own_parts hO3
  refine vc_op rfl (fun K hK => ws_call hF rfl (by decide) cl19_tr rfl rfl ?_)
  with_reducible refine (refsum_any w3 A3 ([6] ++ s.data.toList) c3 _ rfl (hB3 [(b2, 23, dc (List.replicate 32 0))] w3 hA3) (by simp; omega)).mono ?_
  rintro e' w4 ⟨rfl, hc4⟩
  refine ⟨_, rfl, fun a hF => hK _ _ ?_⟩; clear hK K
  have hA4 := hA3.then0 hc4
  refine vc_op rfl (fun K hK => ws_storeAll hF rfl rfl hA4 rfl rfl 0 rfl (tb_z (sha_length _)) (dc_one _) tb_s (fun w5 hA5 => hK _ _ ?_))
  clear hK K
  refine vc_nil ?_
  refine hK2 _ _ ?_; clear  hK2 K2
  apply wp_ret
  refine vc_retc hF Tryd.results21 hA5 rfl 0 rfl (tb_row36 (sha_length _)) ?_
  exact ⟨rfl, hA5.clear (all_new (one_new hb2) hOn)⟩

set_option maxRecDepth 100000 in
set_option maxHeartbeats 1000000 in
theorem rentry_any (w : World) (width C : Int) (X Y : List UInt8) (hX : X.length = 32) (hY : Y.length = 32) :
    Calls Tryd.prog 89 #[.int .i64 width, .agg (dc X).toArray, .agg (.int .i64 C :: dc Y).toArray] w fun e w' => e = .returned (.agg (dc (ofL width 3 (X ++ be 8 (c64 C) ++ Y))).toArray) ∧ At w [] w' := by
  have hA0 := At.refl w
  refine vc_enter Tryd.func89 rfl Tryd.ntmps89 (Nat.le_of_ble_eq_true rfl) (fun a hF => ?_)
  apply wp_seq_k; intro K1 hK1
  refine wp_region_lit ?_
  refine vc_op rfl (fun K hK => ws_box (cs := dc X) hF rfl (by decide) rfl hA0 rfl (fun b4 w1 a hb4 hF hA1 => hK _ _ ?_))
  clear hK K
  refine vc_op rfl (fun K hK => ws_box (cs := (.int .i64 C :: dc Y)) hF rfl (by decide) rfl hA1 rfl (fun b5 w2 a hb5 hF hA2 => hK _ _ ?_))
  clear hK K
  have q5 : w.heap.size ≤ b5 := by have := hA1.size; omega
  refine vc_op rfl (fun K hK => ws_alloc hF rfl (by decide) rfl hA2 zero36 (fun b6 w3 a hb6 hF hA3 => hK _ _ ?_))
  clear hK K
  replace hA3 : At w [(b6, 23, dc (List.replicate 32 0)), (b5, 25, (.int .i64 C :: dc Y)), (b4, 23, dc X)] w3 := hA3
  refine vc_nil ?_
  refine hK1 _ _ ?_; clear  hK1 K1
  apply wp_seq_k; intro K2 hK2
  refine wp_region_plan 8 [4,7,8,9] [0,1,2,3,5,6,4,7,8,9] (fun x => At w [(b6, 23, dc (List.replicate 32 0)), (b5, 25, (.int .i64 C :: dc Y)), (b4, 23, dc X)] x) (by kernel_rfl) (by kernel_rfl) (hA3.drew) ?_
  refine vp_y hF rfl rfl rfl rfl (by decide) _ (fun x hx => y_move rfl rfl) (fun a hF => ?_)
  refine vp_y hF rfl rfl rfl rfl (by decide) _ (fun x hx => y_sliceArr rfl Tryd.underlying23 ow_size5 rfl (.none 0) (.none 32) (by omega) (by omega) slice_to) (fun a hF => ?_)
  refine vp_y hF rfl rfl rfl rfl (by decide) _ (fun x hx => y_field rfl Tryd.underlying25 rfl sz3_tr (by decide) rfl (rfl : (⟨_, 0 + _, none⟩ : Addr) = ⟨_, 0, none⟩)) (fun a hF => ?_)
  refine vp_y hF rfl rfl rfl rfl (by decide) _ (fun x hx => y_loadAt rfl hx rfl 1 rfl rfl tb_noInt) (fun a hF => ?_)
  refine vp_y hF rfl rfl rfl rfl (by decide) _ (fun x hx => y_field rfl Tryd.underlying25 rfl sz36_tr (by decide) rfl (rfl : (⟨_, 0 + _, none⟩ : Addr) = ⟨_, 1, none⟩)) (fun a hF => ?_)
  refine vp_y hF rfl rfl rfl rfl (by decide) _ (fun x hx => y_sliceArr rfl Tryd.underlying23 ow_size5 rfl (.none 0) (.none 32) (by omega) (by omega) slice_to) (fun a hF => ?_)
  refine vp_l rfl rfl rfl (fun K hK => ws_call hF rfl (by decide) cl73_tr rfl rfl ?_)
  with_reducible refine (eight_any _ C).mono ?_
  rintro e' w4 ⟨b8, rfl, hb8, hc4⟩
  refine ⟨_, rfl, fun a hF => hK _ _ (fun _ => (hA3.drew.thenNew hc4 (one_new hb8)).drop (.cons _ (.refl _)) (fun r hr hlt => by rcases List.mem_cons.1 hr with e | h; (subst e; have := hA3.drew.size; simp only at hlt; omega); exact h)) ?_⟩; clear hK K
  have hA4 : At w [(b8, 5, dc (be 8 (c64 C))), (b6, 23, dc (List.replicate 32 0)), (b5, 25, (.int .i64 C :: dc Y)), (b4, 23, dc X)] w4 := hA3.drew.thenNew hc4 (one_new hb8)
  have q6 : w.heap.size ≤ b6 := by have := hA2.size; omega
  have q8 : w.heap.size ≤ b8 := by have := hA3.drew.size; omega
  refine vp_l rfl rfl rfl (fun K hK => ws_bs3 hF rfl (by decide) rfl hA4 rfl rfl rfl (tb_part3 _ _ _ _ _ _ _ _ _) (fun b7 w7 a hb7 hF hA7 => hK _ _ (fun _ => hA7.drop (.cons _ (.cons _ (.refl _))) (fun r hr hlt => by rcases List.mem_cons.1 hr with e | h; (subst e; have := hA4.size; simp only at hlt; omega); rcases List.mem_cons.1 h with e | h; (subst e; simp only at hlt; omega); exact h)) ?_))
  clear hK K
  have hnr : ∀ r ∈ [((b7, 59, [.slice (some ⟨b4, 0, none⟩) 32 32, .slice (some ⟨b8, 0, none⟩) 8 8, .slice (some ⟨b5, 1, none⟩) 32 32]) : Row), (b8, 5, dc (be 8 (c64 C))), (b6, 23, dc (List.replicate 32 0)), (b5, 25, (.int .i64 C :: dc Y)), (b4, 23, dc X)], w.heap.size ≤ r.1 := cons_new (by have := hA4.size; omega) (cons_new q8 (cons_new q6 (cons_new q5 (one_new hb4))))
  have hP : Pieces w7 (some ⟨b7, 0, none⟩) [(some ⟨b4, 0, none⟩, 32, X), (some ⟨b8, 0, none⟩, 8, be 8 (c64 C)), (some ⟨b5, 1, none⟩, 32, Y)] := Pieces.row hA7 (k := 0) (by rw [List.map_cons, List.map_cons, List.map_cons, hX, hY]; rfl) (fun A' c' l' h => by
    rcases List.mem_cons.1 h with h | h
    · obtain ⟨rfl, rfl, rfl⟩ : A' = some ⟨b4, 0, none⟩ ∧ c' = 32 ∧ l' = X := by simpa using h
      exact ⟨by omega, tb_arr hX hA7 (k := 4) rfl⟩
    · rcases List.mem_cons.1 h with h | h
      · obtain ⟨rfl, rfl, rfl⟩ : A' = some ⟨b8, 0, none⟩ ∧ c' = 8 ∧ l' = be 8 (c64 C) := by simpa using h
        exact ⟨by simp [be], Bts.row hA7 (k := 1) rfl (by rw [List.drop_zero]; exact List.take_of_length_le (by rw [dc_length]; exact Nat.le_refl _))⟩
      · obtain ⟨rfl, rfl, rfl⟩ : A' = some ⟨b5, 1, none⟩ ∧ c' = 32 ∧ l' = Y := by simpa using h
        exact ⟨by omega, Bts.row hA7 (k := 3) rfl (by rw [List.drop_succ_cons, List.drop_zero]; exact List.take_of_length_le (by rw [dc_length]; exact Nat.le_refl _))⟩)
  refine vp_l rfl rfl rfl (fun K hK => ws_call hF rfl (by decide) cl52_tr rfl rfl ?_)
  with_reducible refine (rof_all w7 width 3 3 rfl (some ⟨b7, 0, none⟩) _ 3 3 rfl hP (by rw [flat_three, List.length_append, List.length_append, hX, hY]; simp [be]) (by decide)).mono ?_
  rintro e' w8 ⟨rfl, hc8⟩
  refine ⟨_, rfl, fun a hF => hK _ _ (fun h => absurd h (by decide)) ?_⟩; clear hK K
  have hA8 := hA7.then0 hc8
  clear hc8
  rw [flat_three] at hF
  refine vp_l rfl rfl rfl (fun K hK => ws_storeAll hF rfl rfl hA8 rfl rfl 2 rfl (tb_z (ofL_length _ _ _)) (dc_one _) tb_s (fun w9 hA9 => hK _ _ (fun h => absurd h (by decide)) ?_))
  clear hK K
  refine plan_end ?_
  refine hK2 _ _ ?_; clear  hK2 K2
  apply wp_ret
  refine vc_retc hF Tryd.results89 hA9 rfl 2 rfl (tb_row36 (ofL_length _ _ _)) ?_
  exact ⟨rfl, hA9.clear (cons_new (hnr _ (List.mem_cons_self ..)) (cons_new q8 (cons_new (show w.heap.size ≤ b6 from q6) (cons_new q5 (one_new hb4)))))⟩
end Go.Proofs.YtpomngkcfbnjoaaDoor
