/- Small functions of the statements' book. -/
import Derived.Test.YtepbmdlgdaedpaaGreatDoorProg
import Derived.Test.YtepbmdlgdaedpaaGreatDoorHr
namespace Go.Proofs.YtepbmdlgdaedpaaGreatDoor
open Go.RowKit Go.Dk

theorem nr5_bk : notRow Tryz.prog 5 = true := by kernel_rfl
theorem nr9_bk : notRow Tryz.prog 9 = true := by kernel_rfl
theorem sz5_bk : (Tryz.prog.info? 5).map (·.size) = some 1 := by kernel_rfl
theorem sz9_bk : (Tryz.prog.info? 9).map (·.size) = some 1 := by kernel_rfl
theorem strB_neq_f (l : List UInt8) : strB .neq l l = false := by simp [strB]
theorem strB_neq_t {l m : List UInt8} (h : ¬ l = m) : strB .neq l m = true := by simp [strB, h]

set_option maxRecDepth 100000 in
set_option maxHeartbeats 1000000 in
theorem bk_same_strings (w0 w : World) (R : List Seg) (pa pb : Option Addr) (xs ys : List (List UInt8)) (ca cb : Nat) (hX : Rc w0 R pa (xs.map strV)) (hY : Rc w0 R pb (ys.map strV)) (hA : Hp w0 R w) (hn : xs.length ≤ 9223372036854775807) : Calls Tryz.prog 92 #[.slice pa xs.length ca, .slice pb ys.length cb] w fun e w' => e = .returned (.bool (decide (xs = ys))) ∧ Hp w0 R w' := by
  refine vc_enter Tryz.func92 rfl Tryz.ntmps92 (Nat.le_of_ble_eq_true rfl) (fun a hF => ?_)
  apply wp_seq_k; intro K1 hK1
  refine wp_region_lit ?_
  refine vc_y hF rfl rfl (by decide) _ (y_assign rfl rfl) (fun a hF => ?_)
  refine vc_nil ?_
  refine hK1 _ _ ?_; clear  hK1 K1
  apply wp_seq_k; intro K2 hK2
  apply wp_seq_k; intro K3 hK3
  refine wp_region_lit ?_
  refine vc_y hF rfl rfl (by decide) _ (y_move rfl rfl) (fun a hF => ?_)
  refine vc_y hF rfl rfl (by decide) _ (y_lenSl rfl Tryz.underlying23 rfl rfl) (fun a hF => ?_)
  refine vc_y hF rfl rfl (by decide) _ (y_move rfl rfl) (fun a hF => ?_)
  refine vc_y hF rfl rfl (by decide) _ (y_lenSl rfl Tryz.underlying23 rfl rfl) (fun a hF => ?_)
  refine vc_y hF rfl rfl (by decide) _ (y_cmp rfl rfl rfl rfl rfl) (fun a hF => ?_)
  refine vc_nil ?_
  refine hK3 _ _ ?_; clear  hK3 K3
  by_cases hne : (xs.length : Int) ≠ (ys.length : Int)
  · refine vc_trueB hF rfl (neq_t (by omega)) ?_
    apply wp_seq_k; intro K4 hK4
    refine wp_region_lit ?_
    refine vc_y hF rfl rfl (by decide) _ (y_assign rfl rfl) (fun a hF => ?_)
    refine vc_nil ?_
    refine hK4 _ _ ?_; clear  hK4 K4
    apply wp_ret
    simp only [Exit.then]
    refine vc_ret1 hF Tryz.results92 rfl ?_
    rw [decide_eq_false (fun e => by rw [e] at hne; exact hne rfl)]
    exact ⟨rfl, hA⟩
  · refine vc_falseB hF rfl (neq_f (by omega)) ?_
    replace hne : xs.length = ys.length := by omega
    apply wp_skip
    refine hK2 _ _ ?_; clear  hK2 K2
    apply wp_seq_k; intro K5 hK5
    apply wp_seq_k; intro K6 hK6
    refine wp_region_lit ?_
    refine vc_y hF rfl rfl (by decide) _ (y_assign rfl rfl) (fun a hF => ?_)
    refine vc_nil ?_
    refine hK6 _ _ ?_; clear  hK6 K6
    apply wp_block
    refine vc_loop (G := Nat) (fun i a x => i ≤ xs.length ∧ xs.take i = ys.take i ∧ Fr 26 [(5, .int .i64 (i : Int)), (0, .slice pa xs.length ca), (1, .slice pb ys.length cb)] a ∧ Hp w0 (R) x) (fun i => xs.length - i) 0 (⟨Nat.zero_le _, rfl, hF.keep [5, 0, 1] rfl, hA⟩) ?_
    clear hF
    rintro i a w2 ⟨hi, hE, hF, hA1⟩
    apply wp_seq_k; intro K7 hK7
    apply wp_seq_k; intro K8 hK8
    refine wp_region_lit ?_
    refine vc_y hF rfl rfl (by decide) _ (y_move rfl rfl) (fun a hF => ?_)
    refine vc_y hF rfl rfl (by decide) _ (y_move rfl rfl) (fun a hF => ?_)
    refine vc_y hF rfl rfl (by decide) _ (y_lenSl rfl Tryz.underlying23 rfl rfl) (fun a hF => ?_)
    refine vc_y hF rfl rfl (by decide) _ (y_cmp rfl rfl rfl rfl rfl) (fun a hF => ?_)
    refine vc_nil ?_
    refine hK8 _ _ ?_; clear  hK8 K8
    by_cases hlt : i < xs.length
    · refine vc_trueB hF rfl (lss_t (by omega)) ?_
      obtain ⟨q, hp⟩ : ∃ q, xs[i]? = some q := ⟨_, List.getElem?_eq_getElem hlt⟩
      obtain ⟨u, hu⟩ : ∃ u, ys[i]? = some u := ⟨_, List.getElem?_eq_getElem (by omega)⟩
      have hT : xs.take (i + 1) = xs.take i ++ [q] ∧ ys.take (i + 1) = ys.take i ++ [u] := ⟨by rw [List.take_add_one, hp]; rfl, by rw [List.take_add_one, hu]; rfl⟩
      obtain ⟨b1, o0, rfl, hc0⟩ := hX.ne (i := i) (by rw [List.length_map]; omega)
      obtain ⟨b2, o1, rfl, hc1⟩ := hY.ne (i := i) (by rw [List.length_map]; omega)
      by_cases hqu : q = u
      · apply wp_skip
        refine hK7 _ _ ?_; clear  hK7 K7
        apply wp_seq_k; intro K9 hK9
        apply wp_block
        apply wp_seq_k; intro K10 hK10
        refine wp_region_plan 8 [8] [0,1,2,3,4,5,6,7,8] (fun x => Hq w0 (R) x) (by kernel_rfl) (by kernel_rfl) (Hq.drew (Hp.qp [] R [] hA1)) ?_
        have hA3 := Hl.drew hA1
        refine vp_y hF rfl rfl rfl rfl (by decide) _ (fun x hx => y_move rfl rfl) (fun a hF => ?_)
        refine vp_y hF rfl rfl rfl rfl (by decide) _ (fun x hx => y_move rfl rfl) (fun a hF => ?_)
        refine vp_y hF rfl rfl rfl rfl (by decide) _ (fun x hx => y_ixSl rfl Tryz.underlying23 sz9_bk rfl rfl i rfl hlt (ad2 _ _ _)) (fun a hF => ?_)
        refine vp_y hF rfl rfl rfl rfl (by decide) _ (fun x hx => y_ldC (u := strV q) rfl hx rfl hc0 i (by rw [List.length_map]; omega) rfl (by rw [List.getElem?_map, hp]; rfl) nr9_bk) (fun a hF => ?_)
        refine vp_y hF rfl rfl rfl rfl (by decide) _ (fun x hx => y_move rfl rfl) (fun a hF => ?_)
        refine vp_y hF rfl rfl rfl rfl (by decide) _ (fun x hx => y_move rfl rfl) (fun a hF => ?_)
        refine vp_y hF rfl rfl rfl rfl (by decide) _ (fun x hx => y_ixSl rfl Tryz.underlying23 sz9_bk rfl rfl i rfl (by omega) (ad2 _ _ _)) (fun a hF => ?_)
        refine vp_y hF rfl rfl rfl rfl (by decide) _ (fun x hx => y_ldC (u := strV u) rfl hx rfl hc1 i (by rw [List.length_map]; omega) rfl (by rw [List.getElem?_map, hu]; rfl) nr9_bk) (fun a hF => ?_)
        refine vp_ly hF rfl rfl rfl rfl (by decide) _ (y_cmpS (c := false) rfl rfl rfl rfl (by subst hqu; exact strB_neq_f _)) (fun h => absurd h (by decide)) (fun a hF => ?_)
        refine plan_end ?_
        refine hK10 _ _ ?_; clear  hK10 K10
        refine vc_false hF rfl ?_
        apply wp_skip
        refine hK9 _ _ ?_; clear  hK9 K9
        refine wp_region_lit ?_
        refine vc_y hF rfl rfl (by decide) _ (y_move rfl rfl) (fun a hF => ?_)
        refine vc_y hF rfl rfl (by decide) _ (y_add rfl rfl rfl (IntWalk.i64_in _ (by omega))) (fun a hF => ?_)
        refine vc_y hF rfl rfl (by decide) _ (y_assign rfl rfl) (fun a hF => ?_)
        refine vc_nil ?_
        exact ⟨i + 1, by omega, by omega, by rw [hT.1, hT.2, hE, hqu], hF.keep [5, 0, 1] rfl, hA3⟩
      · apply wp_skip
        refine hK7 _ _ ?_; clear  hK7 K7
        apply wp_seq_k; intro K11 hK11
        apply wp_block
        apply wp_seq_k; intro K12 hK12
        refine wp_region_plan 8 [8] [0,1,2,3,4,5,6,7,8] (fun x => Hq w0 (R) x) (by kernel_rfl) (by kernel_rfl) (Hq.drew (Hp.qp [] R [] hA1)) ?_
        have hA4 := Hl.drew hA1
        refine vp_y hF rfl rfl rfl rfl (by decide) _ (fun x hx => y_move rfl rfl) (fun a hF => ?_)
        refine vp_y hF rfl rfl rfl rfl (by decide) _ (fun x hx => y_move rfl rfl) (fun a hF => ?_)
        refine vp_y hF rfl rfl rfl rfl (by decide) _ (fun x hx => y_ixSl rfl Tryz.underlying23 sz9_bk rfl rfl i rfl hlt (ad2 _ _ _)) (fun a hF => ?_)
        refine vp_y hF rfl rfl rfl rfl (by decide) _ (fun x hx => y_ldC (u := strV q) rfl hx rfl hc0 i (by rw [List.length_map]; omega) rfl (by rw [List.getElem?_map, hp]; rfl) nr9_bk) (fun a hF => ?_)
        refine vp_y hF rfl rfl rfl rfl (by decide) _ (fun x hx => y_move rfl rfl) (fun a hF => ?_)
        refine vp_y hF rfl rfl rfl rfl (by decide) _ (fun x hx => y_move rfl rfl) (fun a hF => ?_)
        refine vp_y hF rfl rfl rfl rfl (by decide) _ (fun x hx => y_ixSl rfl Tryz.underlying23 sz9_bk rfl rfl i rfl (by omega) (ad2 _ _ _)) (fun a hF => ?_)
        refine vp_y hF rfl rfl rfl rfl (by decide) _ (fun x hx => y_ldC (u := strV u) rfl hx rfl hc1 i (by rw [List.length_map]; omega) rfl (by rw [List.getElem?_map, hu]; rfl) nr9_bk) (fun a hF => ?_)
        refine vp_ly hF rfl rfl rfl rfl (by decide) _ (y_cmpS (c := true) rfl rfl rfl rfl (strB_neq_t hqu)) (fun h => absurd h (by decide)) (fun a hF => ?_)
        refine plan_end ?_
        refine hK12 _ _ ?_; clear  hK12 K12
        refine vc_true hF rfl ?_
        apply wp_seq_k; intro K13 hK13
        refine wp_region_lit ?_
        refine vc_y hF rfl rfl (by decide) _ (y_assign rfl rfl) (fun a hF => ?_)
        refine vc_nil ?_
        refine hK13 _ _ ?_; clear  hK13 K13
        apply wp_ret
        simp only [Exit.then, Exit.inBlock]
        refine vc_ret1 hF Tryz.results92 rfl ?_
        rw [decide_eq_false (fun e => by rw [e, hu] at hp; exact hqu (Option.some.inj hp).symm)]
        exact ⟨rfl, hA4⟩
    · refine vc_falseB hF rfl (lss_f (by omega)) ?_
      obtain rfl : i = xs.length := by omega
      rw [List.take_length, hne, List.take_length] at hE
      apply wp_exit
      refine hK5 _ _ ?_; clear hK7 K7 hK5 K5
      apply wp_seq_k; intro K14 hK14
      refine wp_region_lit ?_
      refine vc_y hF rfl rfl (by decide) _ (y_assign rfl rfl) (fun a hF => ?_)
      refine vc_nil ?_
      refine hK14 _ _ ?_; clear  hK14 K14
      apply wp_ret
      refine vc_ret1 hF Tryz.results92 rfl ?_
      rw [decide_eq_true hE]
      exact ⟨rfl, hA1⟩

set_option maxRecDepth 100000 in
set_option maxHeartbeats 1000000 in
theorem bk_same_bytes (w0 w : World) (R : List Seg) (pa pb : Option Addr) (xs ys : List (UInt8)) (ca cb : Nat) (hX : Rc w0 R pa (dc xs)) (hY : Rc w0 R pb (dc ys)) (hA : Hp w0 R w) (hn : xs.length ≤ 9223372036854775807) : Calls Tryz.prog 86 #[.slice pa xs.length ca, .slice pb ys.length cb] w fun e w' => e = .returned (.bool (decide (xs = ys))) ∧ Hp w0 R w' := by
  refine vc_enter Tryz.func86 rfl Tryz.ntmps86 (Nat.le_of_ble_eq_true rfl) (fun a hF => ?_)
  apply wp_seq_k; intro K1 hK1
  refine wp_region_lit ?_
  refine vc_y hF rfl rfl (by decide) _ (y_assign rfl rfl) (fun a hF => ?_)
  refine vc_nil ?_
  refine hK1 _ _ ?_; clear  hK1 K1
  apply wp_seq_k; intro K2 hK2
  apply wp_seq_k; intro K3 hK3
  refine wp_region_lit ?_
  refine vc_y hF rfl rfl (by decide) _ (y_move rfl rfl) (fun a hF => ?_)
  refine vc_y hF rfl rfl (by decide) _ (y_lenSl rfl Tryz.underlying27 rfl rfl) (fun a hF => ?_)
  refine vc_y hF rfl rfl (by decide) _ (y_move rfl rfl) (fun a hF => ?_)
  refine vc_y hF rfl rfl (by decide) _ (y_lenSl rfl Tryz.underlying27 rfl rfl) (fun a hF => ?_)
  refine vc_y hF rfl rfl (by decide) _ (y_cmp rfl rfl rfl rfl rfl) (fun a hF => ?_)
  refine vc_nil ?_
  refine hK3 _ _ ?_; clear  hK3 K3
  by_cases hne : (xs.length : Int) ≠ (ys.length : Int)
  · refine vc_trueB hF rfl (neq_t (by omega)) ?_
    apply wp_seq_k; intro K4 hK4
    refine wp_region_lit ?_
    refine vc_y hF rfl rfl (by decide) _ (y_assign rfl rfl) (fun a hF => ?_)
    refine vc_nil ?_
    refine hK4 _ _ ?_; clear  hK4 K4
    apply wp_ret
    simp only [Exit.then]
    refine vc_ret1 hF Tryz.results86 rfl ?_
    rw [decide_eq_false (fun e => by rw [e] at hne; exact hne rfl)]
    exact ⟨rfl, hA⟩
  · refine vc_falseB hF rfl (neq_f (by omega)) ?_
    replace hne : xs.length = ys.length := by omega
    apply wp_skip
    refine hK2 _ _ ?_; clear  hK2 K2
    apply wp_seq_k; intro K5 hK5
    apply wp_seq_k; intro K6 hK6
    refine wp_region_lit ?_
    refine vc_y hF rfl rfl (by decide) _ (y_assign rfl rfl) (fun a hF => ?_)
    refine vc_nil ?_
    refine hK6 _ _ ?_; clear  hK6 K6
    apply wp_block
    refine vc_loop (G := Nat) (fun i a x => i ≤ xs.length ∧ xs.take i = ys.take i ∧ Fr 26 [(5, .int .i64 (i : Int)), (0, .slice pa xs.length ca), (1, .slice pb ys.length cb)] a ∧ Hp w0 (R) x) (fun i => xs.length - i) 0 (⟨Nat.zero_le _, rfl, hF.keep [5, 0, 1] rfl, hA⟩) ?_
    clear hF
    rintro i a w2 ⟨hi, hE, hF, hA1⟩
    apply wp_seq_k; intro K7 hK7
    apply wp_seq_k; intro K8 hK8
    refine wp_region_lit ?_
    refine vc_y hF rfl rfl (by decide) _ (y_move rfl rfl) (fun a hF => ?_)
    refine vc_y hF rfl rfl (by decide) _ (y_move rfl rfl) (fun a hF => ?_)
    refine vc_y hF rfl rfl (by decide) _ (y_lenSl rfl Tryz.underlying27 rfl rfl) (fun a hF => ?_)
    refine vc_y hF rfl rfl (by decide) _ (y_cmp rfl rfl rfl rfl rfl) (fun a hF => ?_)
    refine vc_nil ?_
    refine hK8 _ _ ?_; clear  hK8 K8
    by_cases hlt : i < xs.length
    · refine vc_trueB hF rfl (lss_t (by omega)) ?_
      obtain ⟨q, hp⟩ : ∃ q, xs[i]? = some q := ⟨_, List.getElem?_eq_getElem hlt⟩
      obtain ⟨u, hu⟩ : ∃ u, ys[i]? = some u := ⟨_, List.getElem?_eq_getElem (by omega)⟩
      have hT : xs.take (i + 1) = xs.take i ++ [q] ∧ ys.take (i + 1) = ys.take i ++ [u] := ⟨by rw [List.take_add_one, hp]; rfl, by rw [List.take_add_one, hu]; rfl⟩
      obtain ⟨b1, o0, rfl, hc0⟩ := hX.ne (i := i) (by rw [dc_length]; omega)
      obtain ⟨b2, o1, rfl, hc1⟩ := hY.ne (i := i) (by rw [dc_length]; omega)
      by_cases hqu : q = u
      · apply wp_skip
        refine hK7 _ _ ?_; clear  hK7 K7
        apply wp_seq_k; intro K9 hK9
        apply wp_block
        apply wp_seq_k; intro K10 hK10
        refine wp_region_plan 8 [8] [0,1,2,3,4,5,6,7,8] (fun x => Hq w0 (R) x) (by kernel_rfl) (by kernel_rfl) (Hq.drew (Hp.qp [] R [] hA1)) ?_
        have hA3 := Hl.drew hA1
        refine vp_y hF rfl rfl rfl rfl (by decide) _ (fun x hx => y_move rfl rfl) (fun a hF => ?_)
        refine vp_y hF rfl rfl rfl rfl (by decide) _ (fun x hx => y_move rfl rfl) (fun a hF => ?_)
        refine vp_y hF rfl rfl rfl rfl (by decide) _ (fun x hx => y_ixSl rfl Tryz.underlying27 sz5_bk rfl rfl i rfl hlt (ad2 _ _ _)) (fun a hF => ?_)
        refine vp_y hF rfl rfl rfl rfl (by decide) _ (fun x hx => y_ldC (u := .int .u8 (q.toNat : Int)) rfl hx rfl hc0 i (by rw [dc_length]; omega) rfl (by unfold dc; rw [List.getElem?_map, hp]; rfl) nr5_bk) (fun a hF => ?_)
        refine vp_y hF rfl rfl rfl rfl (by decide) _ (fun x hx => y_move rfl rfl) (fun a hF => ?_)
        refine vp_y hF rfl rfl rfl rfl (by decide) _ (fun x hx => y_move rfl rfl) (fun a hF => ?_)
        refine vp_y hF rfl rfl rfl rfl (by decide) _ (fun x hx => y_ixSl rfl Tryz.underlying27 sz5_bk rfl rfl i rfl (by omega) (ad2 _ _ _)) (fun a hF => ?_)
        refine vp_y hF rfl rfl rfl rfl (by decide) _ (fun x hx => y_ldC (u := .int .u8 (u.toNat : Int)) rfl hx rfl hc1 i (by rw [dc_length]; omega) rfl (by unfold dc; rw [List.getElem?_map, hu]; rfl) nr5_bk) (fun a hF => ?_)
        refine vp_ly hF rfl rfl rfl rfl (by decide) _ (y_cmp rfl rfl rfl rfl (neq_f (by rw [hqu]))) (fun h => absurd h (by decide)) (fun a hF => ?_)
        refine plan_end ?_
        refine hK10 _ _ ?_; clear  hK10 K10
        refine vc_false hF rfl ?_
        apply wp_skip
        refine hK9 _ _ ?_; clear  hK9 K9
        refine wp_region_lit ?_
        refine vc_y hF rfl rfl (by decide) _ (y_move rfl rfl) (fun a hF => ?_)
        refine vc_y hF rfl rfl (by decide) _ (y_add rfl rfl rfl (IntWalk.i64_in _ (by omega))) (fun a hF => ?_)
        refine vc_y hF rfl rfl (by decide) _ (y_assign rfl rfl) (fun a hF => ?_)
        refine vc_nil ?_
        exact ⟨i + 1, by omega, by omega, by rw [hT.1, hT.2, hE, hqu], hF.keep [5, 0, 1] rfl, hA3⟩
      · apply wp_skip
        refine hK7 _ _ ?_; clear  hK7 K7
        apply wp_seq_k; intro K11 hK11
        apply wp_block
        apply wp_seq_k; intro K12 hK12
        refine wp_region_plan 8 [8] [0,1,2,3,4,5,6,7,8] (fun x => Hq w0 (R) x) (by kernel_rfl) (by kernel_rfl) (Hq.drew (Hp.qp [] R [] hA1)) ?_
        have hA4 := Hl.drew hA1
        refine vp_y hF rfl rfl rfl rfl (by decide) _ (fun x hx => y_move rfl rfl) (fun a hF => ?_)
        refine vp_y hF rfl rfl rfl rfl (by decide) _ (fun x hx => y_move rfl rfl) (fun a hF => ?_)
        refine vp_y hF rfl rfl rfl rfl (by decide) _ (fun x hx => y_ixSl rfl Tryz.underlying27 sz5_bk rfl rfl i rfl hlt (ad2 _ _ _)) (fun a hF => ?_)
        refine vp_y hF rfl rfl rfl rfl (by decide) _ (fun x hx => y_ldC (u := .int .u8 (q.toNat : Int)) rfl hx rfl hc0 i (by rw [dc_length]; omega) rfl (by unfold dc; rw [List.getElem?_map, hp]; rfl) nr5_bk) (fun a hF => ?_)
        refine vp_y hF rfl rfl rfl rfl (by decide) _ (fun x hx => y_move rfl rfl) (fun a hF => ?_)
        refine vp_y hF rfl rfl rfl rfl (by decide) _ (fun x hx => y_move rfl rfl) (fun a hF => ?_)
        refine vp_y hF rfl rfl rfl rfl (by decide) _ (fun x hx => y_ixSl rfl Tryz.underlying27 sz5_bk rfl rfl i rfl (by omega) (ad2 _ _ _)) (fun a hF => ?_)
        refine vp_y hF rfl rfl rfl rfl (by decide) _ (fun x hx => y_ldC (u := .int .u8 (u.toNat : Int)) rfl hx rfl hc1 i (by rw [dc_length]; omega) rfl (by unfold dc; rw [List.getElem?_map, hu]; rfl) nr5_bk) (fun a hF => ?_)
        refine vp_ly hF rfl rfl rfl rfl (by decide) _ (y_cmp rfl rfl rfl rfl (neq_t (fun h => hqu (UInt8.toNat_inj.1 (Int.ofNat.inj h))))) (fun h => absurd h (by decide)) (fun a hF => ?_)
        refine plan_end ?_
        refine hK12 _ _ ?_; clear  hK12 K12
        refine vc_true hF rfl ?_
        apply wp_seq_k; intro K13 hK13
        refine wp_region_lit ?_
        refine vc_y hF rfl rfl (by decide) _ (y_assign rfl rfl) (fun a hF => ?_)
        refine vc_nil ?_
        refine hK13 _ _ ?_; clear  hK13 K13
        apply wp_ret
        simp only [Exit.then, Exit.inBlock]
        refine vc_ret1 hF Tryz.results86 rfl ?_
        rw [decide_eq_false (fun e => by rw [e, hu] at hp; exact hqu (Option.some.inj hp).symm)]
        exact ⟨rfl, hA4⟩
    · refine vc_falseB hF rfl (lss_f (by omega)) ?_
      obtain rfl : i = xs.length := by omega
      rw [List.take_length, hne, List.take_length] at hE
      apply wp_exit
      refine hK5 _ _ ?_; clear hK7 K7 hK5 K5
      apply wp_seq_k; intro K14 hK14
      refine wp_region_lit ?_
      refine vc_y hF rfl rfl (by decide) _ (y_assign rfl rfl) (fun a hF => ?_)
      refine vc_nil ?_
      refine hK14 _ _ ?_; clear  hK14 K14
      apply wp_ret
      refine vc_ret1 hF Tryz.results86 rfl ?_
      rw [decide_eq_true hE]
      exact ⟨rfl, hA1⟩
end Go.Proofs.YtepbmdlgdaedpaaGreatDoor
