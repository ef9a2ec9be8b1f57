/- Check and Climb. -/
import Derived.Test.YtpomngkcfbnjoaaDoorSp3
namespace Go.Proofs.YtpomngkcfbnjoaaDoor
open Go.RowKit Go.Dk

theorem Prf.check_err {p : Prf} {width : Int} {root k : List UInt8} (h : ¬ p.err width = 0) : p.check width root k = p.err width := by unfold Prf.check; rw [if_neg h]
theorem Prf.check_ok {p : Prf} {width : Int} {root k : List UInt8} (h : p.err width = 0) (h2 : p.lead width k 256 = root) : p.check width root k = 0 := by unfold Prf.check; rw [if_pos h, if_pos h2]
theorem Prf.check_root {p : Prf} {width : Int} {root k : List UInt8} (h : p.err width = 0) (h2 : ¬ p.lead width k 256 = root) : p.check width root k = 171 := by unfold Prf.check; rw [if_pos h, if_neg h2]
theorem Prf.formed_of {p : Prf} {width : Int} (h : p.err width = 0) : p.formed = true := by
  cases hf : p.formed with
  | true => rfl
  | false => unfold Prf.err at h; rw [hf] at h; cases h
theorem rw23_s4 : isRow Tryd.prog 23 32 = true := by kernel_rfl
theorem rw28_s4 : isRow Tryd.prog 28 67 = true := by kernel_rfl
theorem sz5_s4 : (Tryd.prog.info? 5).map (·.size) = some 1 := by kernel_rfl
theorem sz23_s4 : (Tryd.prog.info? 23).map (·.size) = some 32 := by kernel_rfl
theorem cl43_s4 : CallsTo Tryd.prog 43 := ⟨_, Tryd.func43, by kernel_rfl, by kernel_rfl⟩
theorem cl44_s4 : CallsTo Tryd.prog 44 := ⟨_, Tryd.func44, by kernel_rfl, by kernel_rfl⟩

theorem zr23_s4 : zeroIs Tryd.prog 23 (.agg (dc (List.replicate 32 0)).toArray) := by unfold zeroIs; kernel_rfl

set_option maxRecDepth 100000 in
set_option maxHeartbeats 2000000 in
theorem sp_check (w0 w : World) (R G : List Seg) (hG : G ⊆ R) (p : Prf) (sA : Option Addr) (sC : Nat) (width : Int) (root k : List UInt8) (hp : p.OK) (hr : root.length = 32) (hk : k.length = 32) (hT : Tab w0) (hS : Rc w0 G sA (digV p.ss)) (hA : Hp w0 R w) : Calls Tryd.prog 12 #[.int .i64 width, .agg (dc root).toArray, .agg (dc k).toArray, .agg (p.cells (.slice sA p.ss.length sC)).toArray] w fun e w' => e = .returned (.int .i64 ((p.check width root k : Nat) : Int)) ∧ Hp w0 R w' := by
  have hdk : (dc k).length = 32 := by rw [dc_length, hk]
  have hdr : (dc root).length = 32 := by rw [dc_length, hr]
  refine vc_enter Tryd.func12 rfl Tryd.ntmps12 (Nat.le_of_ble_eq_true rfl) (fun a hF => ?_)
  apply wp_seq_k; intro K1 hK1
  refine wp_region_lit ?_
  refine vc_op rfl (fun K hK => hs_box (cs := dc root) hF rfl (by decide) rfl hA rfl (fun b1 w2 a hb1 hF hA3 => hK _ _ ?_))
  clear hK K
  replace hA3 : Hp w0 ([row b1 23 (dc root)] :: R) w2 := hA3
  refine vc_op rfl (fun K hK => hs_box (cs := dc k) hF rfl (by decide) rfl hA3 rfl (fun b4 w5 a hb4 hF hA6 => hK _ _ ?_))
  clear hK K
  replace hA6 : Hp w0 ([row b4 23 (dc k)] :: [row b1 23 (dc root)] :: R) w5 := hA6
  refine vc_op rfl (fun K hK => hs_box (cs := p.cells (.slice sA p.ss.length sC)) hF rfl (by decide) rfl hA6 rfl (fun b7 w8 a hb7 hF hA9 => hK _ _ ?_))
  clear hK K
  replace hA9 : Hp w0 ([row b7 28 (p.cells (.slice sA p.ss.length sC))] :: [row b4 23 (dc k)] :: [row b1 23 (dc root)] :: R) w8 := hA9
  refine vc_y hF rfl rfl (by decide) _ (y_assign rfl rfl) (fun a hF => ?_)
  refine vc_nil ?_
  refine hK1 _ _ ?_; clear  hK1 K1
  apply wp_seq_k; intro K2 hK2
  refine wp_region_lit ?_
  refine vc_y hF rfl rfl (by decide) _ (y_ldRow rfl hA9.q rfl 0 rfl rw28_s4 (by rw [Prf.c_len hp]; decide) (Prf.c_all hp)) (fun a hF => ?_)
  refine vc_y hF rfl rfl (by decide) _ (y_move rfl rfl) (fun a hF => ?_)
  refine vc_op rfl (fun K hK => ws_call hF rfl (by decide) cl43_s4 rfl rfl ?_)
  with_reducible refine (sp_rows w0 _ ([row b7 28 (p.cells (.slice sA p.ss.length sC))] :: [row b4 23 (dc k)] :: [row b1 23 (dc root)] :: R) G (List.Subset.trans hG (subC (subC (subC (sub0))))) p sA sC width hp hT hS hA9 ).mono ?_
  rintro e' w10 ⟨rv, XR, rfl, hrow, hA11⟩
  refine ⟨_, rfl, fun a hF => hK _ _ ?_⟩
  clear hK K
  replace hA11 : Hp w0 (XR :: [row b7 28 (p.cells (.slice sA p.ss.length sC))] :: [row b4 23 (dc k)] :: [row b1 23 (dc root)] :: R) w10 := hA11
  refine vc_y hF rfl rfl (by decide) _ (y_move rfl rfl) (fun a hF => ?_)
  refine vc_y hF rfl rfl (by decide) _ (y_extract (v := rv) rfl rfl rfl) (fun a hF => ?_)
  refine vc_y hF rfl rfl (by decide) _ (y_extract (v := .int .i64 ((p.err width : Nat) : Int)) rfl rfl rfl) (fun a hF => ?_)
  refine vc_y hF rfl rfl (by decide) _ (y_assign rfl rfl) (fun a hF => ?_)
  refine vc_y hF rfl rfl (by decide) _ (y_assign rfl rfl) (fun a hF => ?_)
  refine vc_nil ?_
  refine hK2 _ _ ?_; clear  hK2 K2
  apply wp_seq_k; intro K3 hK3
  apply wp_seq_k; intro K4 hK4
  by_cases he : p.err width = 0
  · have hFn := hF
    have hf : p.formed = true := Prf.formed_of he
    obtain ⟨AB, cB, rfl, hcB, hB⟩ := hrow he
    obtain ⟨_, _, e1, _, hRc⟩ := hB.rc (w0 := w0) (R := [XR]) (List.mem_cons_self ..)
    injection e1 with e1 _ e3
    subst e1 e3
    have hF := hFn
    have hdl : (dc (p.lead width k 256)).length = 32 := by rw [dc_length, p.lead_length]
    refine wp_region_lit ?_
    refine vc_y hF rfl rfl (by decide) _ (y_move rfl rfl) (fun a hF => ?_)
    refine vc_y hF rfl rfl (by decide) _ (y_cmp rfl rfl rfl rfl (neq_f (by omega))) (fun a hF => ?_)
    refine vc_nil ?_
    refine hK4 _ _ ?_; clear  hK4 K4
    refine vc_false hF rfl ?_
    apply wp_skip
    refine hK3 _ _ ?_; clear  hK3 K3
    apply wp_seq_k; intro K5 hK5
    apply wp_seq_k; intro K6 hK6
    refine wp_region_lit ?_
    refine vc_y hF rfl rfl (by decide) _ (y_ldRow rfl hA11.q rfl 1 rfl rw28_s4 (by rw [Prf.c_len hp]; decide) (Prf.c_all hp)) (fun a hF => ?_)
    refine vc_y hF rfl rfl (by decide) _ (y_move rfl rfl) (fun a hF => ?_)
    refine vc_y hF rfl rfl (by decide) _ (y_ldRow (new := dc k) rfl hA11.q rfl 2 rfl rw23_s4 (by rw [hdk]; exact Nat.le_refl _) (by rw [List.drop_zero]; exact List.take_of_length_le (by rw [hdk]; exact Nat.le_refl _))) (fun a hF => ?_)
    refine vc_y hF rfl rfl (by decide) _ (y_move rfl rfl) (fun a hF => ?_)
    refine vc_op rfl (fun K hK => ws_call hF rfl (by decide) cl44_s4 rfl rfl ?_)
    with_reducible refine (sp_lead w0 _ (XR :: [row b7 28 (p.cells (.slice sA p.ss.length sC))] :: [row b4 23 (dc k)] :: [row b1 23 (dc root)] :: R) [XR] (sub1 ((List.mem_cons_self ..))) p (.slice sA p.ss.length sC) width k AB cB hp hf hk hT hRc hA11 ).mono ?_
    rintro e' w12 ⟨ts, tv, XL, rfl, hTS, hA13⟩
    refine ⟨_, rfl, fun a hF => hK _ _ ?_⟩
    clear hK K
    replace hA13 : Hp w0 (XL :: (txS ts) :: XR :: [row b7 28 (p.cells (.slice sA p.ss.length sC))] :: [row b4 23 (dc k)] :: [row b1 23 (dc root)] :: R) w12 := hA13
    refine vc_y hF rfl rfl (by decide) _ (y_move rfl rfl) (fun a hF => ?_)
    refine vc_y hF rfl rfl (by decide) _ (y_extract (v := tv) rfl rfl rfl) (fun a hF => ?_)
    refine vc_y hF rfl rfl (by decide) _ (y_extract (v := .agg (dc (p.lead width k 256)).toArray) rfl rfl rfl) (fun a hF => ?_)
    refine vc_op rfl (fun K hK => hs_alloc hF rfl (by decide) rfl hA13 (zr23_s4) (fun b14 w15 a hb14 hF hA16 => hK _ _ ?_))
    clear hK K
    replace hA16 : Hp w0 ([row b14 23 (dc (List.replicate 32 0))] :: XL :: (txS ts) :: XR :: [row b7 28 (p.cells (.slice sA p.ss.length sC))] :: [row b4 23 (dc k)] :: [row b1 23 (dc root)] :: R) w15 := hA16
    refine vc_y hF rfl rfl (by decide) _ (y_assign rfl rfl) (fun a hF => ?_)
    refine vc_op rfl (fun K hK => hs_storeAll (new := dc (p.lead width k 256)) hF rfl rfl hA16 rfl rfl 0 rfl (by rw [hdl]; rfl) (dc_one _) sz23_s4 (fun w17 hA18 => hK _ _ ?_))
    clear hK K
    replace hA18 : Hp w0 ([row b14 23 (dc (p.lead width k 256))] :: XL :: (txS ts) :: XR :: [row b7 28 (p.cells (.slice sA p.ss.length sC))] :: [row b4 23 (dc k)] :: [row b1 23 (dc root)] :: R) w17 := hA18
    refine vc_nil ?_
    refine hK6 _ _ ?_; clear  hK6 K6
    apply wp_seq_k; intro K7 hK7
    by_cases heq : p.lead width k 256 = root
    · refine wp_region_lit ?_
      refine vc_y hF rfl rfl (by decide) _ (y_ldRow (new := dc (p.lead width k 256)) rfl hA18.q rfl 0 rfl rw23_s4 (by rw [hdl]; exact Nat.le_refl _) (by rw [List.drop_zero]; exact List.take_of_length_le (by rw [hdl]; exact Nat.le_refl _))) (fun a hF => ?_)
      refine vc_y hF rfl rfl (by decide) _ (y_ldRow (new := dc root) rfl hA18.q rfl 6 rfl rw23_s4 (by rw [hdr]; exact Nat.le_refl _) (by rw [List.drop_zero]; exact List.take_of_length_le (by rw [hdr]; exact Nat.le_refl _))) (fun a hF => ?_)
      refine vc_y hF rfl rfl (by decide) _ (y_neB rfl Tryd.underlying23 Tryd.underlying5 sz5_s4 (by kernel_rfl) rfl rfl (p.lead_length ..) hr (show (!decide (p.lead width k 256 = root)) = false by simp [heq])) (fun a hF => ?_)
      refine vc_nil ?_
      refine hK7 _ _ ?_; clear  hK7 K7
      refine vc_false hF rfl ?_
      apply wp_skip
      refine hK5 _ _ ?_; clear  hK5 K5
      apply wp_seq_k; intro K8 hK8
      refine wp_region_lit ?_
      refine vc_y hF rfl rfl (by decide) _ (y_assign rfl rfl) (fun a hF => ?_)
      refine vc_nil ?_
      refine hK8 _ _ ?_; clear  hK8 K8
      apply wp_ret
      refine vc_ret1 hF Tryd.results12 rfl ?_
      have hA19 : Hp w0 (R) w17 := Hp.sel [[row b14 23 (dc (p.lead width k 256))], XL, (txS ts), XR, [row b7 28 (p.cells (.slice sA p.ss.length sC))], [row b4 23 (dc k)], [row b1 23 (dc root)]] R [] [0, 1, 2, 3, 4, 5, 6] hA18 rfl
      exact ⟨by rw [Prf.check_ok he heq]; rfl, hA19⟩
    · refine wp_region_lit ?_
      refine vc_y hF rfl rfl (by decide) _ (y_ldRow (new := dc (p.lead width k 256)) rfl hA18.q rfl 0 rfl rw23_s4 (by rw [hdl]; exact Nat.le_refl _) (by rw [List.drop_zero]; exact List.take_of_length_le (by rw [hdl]; exact Nat.le_refl _))) (fun a hF => ?_)
      refine vc_y hF rfl rfl (by decide) _ (y_ldRow (new := dc root) rfl hA18.q rfl 6 rfl rw23_s4 (by rw [hdr]; exact Nat.le_refl _) (by rw [List.drop_zero]; exact List.take_of_length_le (by rw [hdr]; exact Nat.le_refl _))) (fun a hF => ?_)
      refine vc_y hF rfl rfl (by decide) _ (y_neB rfl Tryd.underlying23 Tryd.underlying5 sz5_s4 (by kernel_rfl) rfl rfl (p.lead_length ..) hr (show (!decide (p.lead width k 256 = root)) = true by simp [heq])) (fun a hF => ?_)
      refine vc_nil ?_
      refine hK7 _ _ ?_; clear  hK7 K7
      refine vc_true hF rfl ?_
      apply wp_seq_k; intro K9 hK9
      refine wp_region_lit ?_
      refine vc_y hF rfl rfl (by decide) _ (y_assign rfl rfl) (fun a hF => ?_)
      refine vc_nil ?_
      refine hK9 _ _ ?_; clear  hK9 K9
      apply wp_ret
      simp only [Exit.then]
      refine vc_ret1 hF Tryd.results12 rfl ?_
      have hA20 : Hp w0 (R) w17 := Hp.sel [[row b14 23 (dc (p.lead width k 256))], XL, (txS ts), XR, [row b7 28 (p.cells (.slice sA p.ss.length sC))], [row b4 23 (dc k)], [row b1 23 (dc root)]] R [] [0, 1, 2, 3, 4, 5, 6] hA18 rfl
      exact ⟨by rw [Prf.check_root he heq]; rfl, hA20⟩
  · refine wp_region_lit ?_
    refine vc_y hF rfl rfl (by decide) _ (y_move rfl rfl) (fun a hF => ?_)
    refine vc_y hF rfl rfl (by decide) _ (y_cmp rfl rfl rfl rfl (neq_t (by omega))) (fun a hF => ?_)
    refine vc_nil ?_
    refine hK4 _ _ ?_; clear  hK4 K4
    refine vc_true hF rfl ?_
    apply wp_seq_k; intro K10 hK10
    refine wp_region_lit ?_
    refine vc_y hF rfl rfl (by decide) _ (y_move rfl rfl) (fun a hF => ?_)
    refine vc_y hF rfl rfl (by decide) _ (y_assign rfl rfl) (fun a hF => ?_)
    refine vc_nil ?_
    refine hK10 _ _ ?_; clear  hK10 K10
    apply wp_ret
    simp only [Exit.then]
    refine vc_ret1 hF Tryd.results12 rfl ?_
    have hA21 : Hp w0 (R) w10 := Hp.sel [XR, [row b7 28 (p.cells (.slice sA p.ss.length sC))], [row b4 23 (dc k)], [row b1 23 (dc root)]] R [] [0, 1, 2, 3] hA11 rfl
    exact ⟨by rw [Prf.check_err he], hA21⟩

theorem TxsS.none : TxsS [] [] (.slice Option.none 0 0) [] := ⟨(fun _ h => by cases h), rfl, Buf.nil _ _⟩

set_option maxRecDepth 100000 in
set_option maxHeartbeats 2000000 in
theorem sp_climb (w0 w : World) (R G : List Seg) (hG : G ⊆ R) (p : Prf) (sA : Option Addr) (sC : Nat) (width : Int) (k : List UInt8) (hp : p.OK) (hk : k.length = 32) (hT : Tab w0) (hS : Rc w0 G sA (digV p.ss)) (hA : Hp w0 R w) : Calls Tryd.prog 14 #[.int .i64 width, .agg (dc k).toArray, .agg (p.cells (.slice sA p.ss.length sC)).toArray] w fun e w' => ∃ ts tv XL, e = .returned (.tuple #[tv, .int .i64 ((p.err width : Nat) : Int)]) ∧ TxsS ts (if p.err width = 0 then p.texts width k 257 else []) tv XL ∧ Hp w0 (XL :: txS ts :: R) w' := by
  have hdk : (dc k).length = 32 := by rw [dc_length, hk]
  refine vc_enter Tryd.func14 rfl Tryd.ntmps14 (Nat.le_of_ble_eq_true rfl) (fun a hF => ?_)
  apply wp_seq_k; intro K1 hK1
  refine wp_region_lit ?_
  refine vc_op rfl (fun K hK => hs_box (cs := dc k) hF rfl (by decide) rfl hA rfl (fun b1 w2 a hb1 hF hA3 => hK _ _ ?_))
  clear hK K
  replace hA3 : Hp w0 ([row b1 23 (dc k)] :: R) w2 := hA3
  refine vc_op rfl (fun K hK => hs_box (cs := p.cells (.slice sA p.ss.length sC)) hF rfl (by decide) rfl hA3 rfl (fun b4 w5 a hb4 hF hA6 => hK _ _ ?_))
  clear hK K
  replace hA6 : Hp w0 ([row b4 28 (p.cells (.slice sA p.ss.length sC))] :: [row b1 23 (dc k)] :: R) w5 := hA6
  refine vc_y hF rfl rfl (by decide) _ (y_assign rfl rfl) (fun a hF => ?_)
  refine vc_y hF rfl rfl (by decide) _ (y_assign rfl rfl) (fun a hF => ?_)
  refine vc_nil ?_
  refine hK1 _ _ ?_; clear  hK1 K1
  apply wp_seq_k; intro K2 hK2
  refine wp_region_lit ?_
  refine vc_y hF rfl rfl (by decide) _ (y_ldRow rfl hA6.q rfl 0 rfl rw28_s4 (by rw [Prf.c_len hp]; decide) (Prf.c_all hp)) (fun a hF => ?_)
  refine vc_y hF rfl rfl (by decide) _ (y_move rfl rfl) (fun a hF => ?_)
  refine vc_op rfl (fun K hK => ws_call hF rfl (by decide) cl43_s4 rfl rfl ?_)
  with_reducible refine (sp_rows w0 _ ([row b4 28 (p.cells (.slice sA p.ss.length sC))] :: [row b1 23 (dc k)] :: R) G (List.Subset.trans hG (subC (subC (sub0)))) p sA sC width hp hT hS hA6 ).mono ?_
  rintro e' w7 ⟨rv, XR, rfl, hrow, hA8⟩
  refine ⟨_, rfl, fun a hF => hK _ _ ?_⟩
  clear hK K
  replace hA8 : Hp w0 (XR :: [row b4 28 (p.cells (.slice sA p.ss.length sC))] :: [row b1 23 (dc k)] :: R) w7 := hA8
  refine vc_y hF rfl rfl (by decide) _ (y_move rfl rfl) (fun a hF => ?_)
  refine vc_y hF rfl rfl (by decide) _ (y_extract (v := rv) rfl rfl rfl) (fun a hF => ?_)
  refine vc_y hF rfl rfl (by decide) _ (y_extract (v := .int .i64 ((p.err width : Nat) : Int)) rfl rfl rfl) (fun a hF => ?_)
  refine vc_y hF rfl rfl (by decide) _ (y_assign rfl rfl) (fun a hF => ?_)
  refine vc_y hF rfl rfl (by decide) _ (y_assign rfl rfl) (fun a hF => ?_)
  refine vc_nil ?_
  refine hK2 _ _ ?_; clear  hK2 K2
  apply wp_seq_k; intro K3 hK3
  apply wp_seq_k; intro K4 hK4
  by_cases he : p.err width = 0
  · have hFn := hF
    have hf : p.formed = true := Prf.formed_of he
    obtain ⟨AB, cB, rfl, hcB, hB⟩ := hrow he
    obtain ⟨_, _, e1, _, hRc⟩ := hB.rc (w0 := w0) (R := [XR]) (List.mem_cons_self ..)
    injection e1 with e1 _ e3
    subst e1 e3
    have hF := hFn
    have hdl : (dc (p.lead width k 256)).length = 32 := by rw [dc_length, p.lead_length]
    refine wp_region_lit ?_
    refine vc_y hF rfl rfl (by decide) _ (y_move rfl rfl) (fun a hF => ?_)
    refine vc_y hF rfl rfl (by decide) _ (y_cmp rfl rfl rfl rfl (neq_f (by omega))) (fun a hF => ?_)
    refine vc_nil ?_
    refine hK4 _ _ ?_; clear  hK4 K4
    refine vc_false hF rfl ?_
    apply wp_skip
    refine hK3 _ _ ?_; clear  hK3 K3
    apply wp_seq_k; intro K5 hK5
    refine wp_region_lit ?_
    refine vc_y hF rfl rfl (by decide) _ (y_ldRow rfl hA8.q rfl 1 rfl rw28_s4 (by rw [Prf.c_len hp]; decide) (Prf.c_all hp)) (fun a hF => ?_)
    refine vc_y hF rfl rfl (by decide) _ (y_move rfl rfl) (fun a hF => ?_)
    refine vc_y hF rfl rfl (by decide) _ (y_ldRow (new := dc k) rfl hA8.q rfl 2 rfl rw23_s4 (by rw [hdk]; exact Nat.le_refl _) (by rw [List.drop_zero]; exact List.take_of_length_le (by rw [hdk]; exact Nat.le_refl _))) (fun a hF => ?_)
    refine vc_y hF rfl rfl (by decide) _ (y_move rfl rfl) (fun a hF => ?_)
    refine vc_op rfl (fun K hK => ws_call hF rfl (by decide) cl44_s4 rfl rfl ?_)
    with_reducible refine (sp_lead w0 _ (XR :: [row b4 28 (p.cells (.slice sA p.ss.length sC))] :: [row b1 23 (dc k)] :: R) [XR] (sub1 ((List.mem_cons_self ..))) p (.slice sA p.ss.length sC) width k AB cB hp hf hk hT hRc hA8 ).mono ?_
    rintro e' w9 ⟨ts, tv, XL, rfl, hTS, hA10⟩
    refine ⟨_, rfl, fun a hF => hK _ _ ?_⟩
    clear hK K
    replace hA10 : Hp w0 (XL :: (txS ts) :: XR :: [row b4 28 (p.cells (.slice sA p.ss.length sC))] :: [row b1 23 (dc k)] :: R) w9 := hA10
    refine vc_y hF rfl rfl (by decide) _ (y_move rfl rfl) (fun a hF => ?_)
    refine vc_y hF rfl rfl (by decide) _ (y_extract (v := tv) rfl rfl rfl) (fun a hF => ?_)
    refine vc_y hF rfl rfl (by decide) _ (y_extract (v := .agg (dc (p.lead width k 256)).toArray) rfl rfl rfl) (fun a hF => ?_)
    refine vc_op rfl (fun K hK => hs_alloc hF rfl (by decide) rfl hA10 (zr23_s4) (fun b11 w12 a hb11 hF hA13 => hK _ _ ?_))
    clear hK K
    replace hA13 : Hp w0 ([row b11 23 (dc (List.replicate 32 0))] :: XL :: (txS ts) :: XR :: [row b4 28 (p.cells (.slice sA p.ss.length sC))] :: [row b1 23 (dc k)] :: R) w12 := hA13
    refine vc_y hF rfl rfl (by decide) _ (y_assign rfl rfl) (fun a hF => ?_)
    refine vc_op rfl (fun K hK => hs_storeAll (new := dc (p.lead width k 256)) hF rfl rfl hA13 rfl rfl 0 rfl (by rw [hdl]; rfl) (dc_one _) sz23_s4 (fun w14 hA15 => hK _ _ ?_))
    clear hK K
    replace hA15 : Hp w0 ([row b11 23 (dc (p.lead width k 256))] :: XL :: (txS ts) :: XR :: [row b4 28 (p.cells (.slice sA p.ss.length sC))] :: [row b1 23 (dc k)] :: R) w14 := hA15
    refine vc_nil ?_
    refine hK5 _ _ ?_; clear  hK5 K5
    apply wp_seq_k; intro K6 hK6
    refine wp_region_lit ?_
    refine vc_y hF rfl rfl (by decide) _ (y_move rfl rfl) (fun a hF => ?_)
    refine vc_y hF rfl rfl (by decide) _ (y_assign rfl rfl) (fun a hF => ?_)
    refine vc_y hF rfl rfl (by decide) _ (y_assign rfl rfl) (fun a hF => ?_)
    refine vc_nil ?_
    refine hK6 _ _ ?_; clear  hK6 K6
    apply wp_ret
    refine vc_ret2 hF Tryd.results14 rfl rfl ?_
    have hA16 : Hp w0 (XL :: (txS ts) :: R) w14 := Hp.sel [[row b11 23 (dc (p.lead width k 256))], XL, (txS ts), XR, [row b4 28 (p.cells (.slice sA p.ss.length sC))], [row b1 23 (dc k)]] R [1, 2] [0, 3, 4, 5] hA15 rfl
    exact ⟨ts, tv, XL, by rw [he]; rfl, by rw [if_pos he]; exact hTS, hA16⟩
  · refine wp_region_lit ?_
    refine vc_y hF rfl rfl (by decide) _ (y_move rfl rfl) (fun a hF => ?_)
    refine vc_y hF rfl rfl (by decide) _ (y_cmp rfl rfl rfl rfl (neq_t (by omega))) (fun a hF => ?_)
    refine vc_nil ?_
    refine hK4 _ _ ?_; clear  hK4 K4
    refine vc_true hF rfl ?_
    apply wp_seq_k; intro K7 hK7
    refine wp_region_lit ?_
    refine vc_y hF rfl rfl (by decide) _ (y_move rfl rfl) (fun a hF => ?_)
    refine vc_y hF rfl rfl (by decide) _ (y_assign rfl rfl) (fun a hF => ?_)
    refine vc_y hF rfl rfl (by decide) _ (y_assign rfl rfl) (fun a hF => ?_)
    refine vc_nil ?_
    refine hK7 _ _ ?_; clear  hK7 K7
    apply wp_ret
    simp only [Exit.then]
    refine vc_ret2 hF Tryd.results14 rfl rfl ?_
    have hA17 : Hp w0 (R) w7 := Hp.sel [XR, [row b4 28 (p.cells (.slice sA p.ss.length sC))], [row b1 23 (dc k)]] R [] [0, 1, 2] hA8 rfl
    exact ⟨[], _, [], rfl, by rw [if_neg he]; exact TxsS.none, Hp.nil (Hp.nil hA17)⟩
end Go.Proofs.YtpomngkcfbnjoaaDoor
