/- The statements' books of memory. -/
import Derived.Test.YtepbmdlgdaedpaaGreatDoorBk
import Derived.Test.YtepbmdlgdaedpaaGreatDoorBook0
namespace Go.Proofs.YtepbmdlgdaedpaaGreatDoor
open Go.RowKit Go.Dk

theorem nr9_kb : notRow Tryz.prog 9 = true := by kernel_rfl
theorem sz9_kb : (Tryz.prog.info? 9).map (·.size) = some 1 := by kernel_rfl
theorem cl92_kb : CallsTo Tryz.prog 92 := ⟨_, Tryz.func92, by kernel_rfl, by kernel_rfl⟩
theorem kb_mk_byte : (Tryz.prog.info? 5).map (fun i => (i.zero.map (fun z => z.cells.toList), i.size, i.bytes)) = some (some (List.replicate 1 (.int .u8 0)), 1, 1) := by kernel_rfl
theorem kb_sz_byte : (Tryz.prog.info? 5).map (·.size) = some 1 := by kernel_rfl
theorem kb_same_string (w0 w : World) (R : List Seg) (pa pb : Option Addr) (xs ys : List (List UInt8)) (ca cb : Nat) (hX : Rc w0 R pa (cel cS xs)) (hY : Rc w0 R pb (cel cS ys)) (hx : ∀ x ∈ xs, (cS x).length = 1) (hy : ∀ x ∈ ys, (cS x).length = 1) (hA : Hp w0 R w) (hn : xs.length ≤ 9223372036854775807) : Calls Tryz.prog 92 #[.slice pa xs.length ca, .slice pb ys.length cb] w fun e w' => e = .returned (.bool (decide (xs = ys))) ∧ Hp w0 R w' :=
  bk_same_strings w0 w R pa pb xs ys ca cb (by rw [cel_str]; exact hX) (by rw [cel_str]; exact hY) hA hn

theorem kb_mk_string : (Tryz.prog.info? 9).map (fun i => (i.zero.map (fun z => z.cells.toList), i.size, i.bytes)) = some (some (List.replicate 1 (strV [])), 1, 16) := by kernel_rfl
theorem kb_sz_string : (Tryz.prog.info? 9).map (·.size) = some 1 := by kernel_rfl
theorem cel_one_string {l : List (List UInt8)} (_ : ∀ x ∈ l, (cS x).length = 1) : ∀ v ∈ cel cS l, v.oneCell' = true := fun v hv => by
  obtain ⟨W, hW, hv⟩ := List.mem_flatten.1 hv
  obtain ⟨x, _, rfl⟩ := List.mem_map.1 hW
  rw [List.mem_singleton.1 hv]; rfl

set_option maxRecDepth 100000 in
set_option maxHeartbeats 4000000 in
theorem kb_roomy_string (w0 w : World) (R : List Seg) (B : Option Addr) (l : List (List UInt8)) (c : Nat) (y : List UInt8) (hB : Rc w0 R B (cel cS l)) (hl1 : ∀ x ∈ l, (cS x).length = 1) (hy1 : (cS y).length = 1) (hA : Hp w0 R w) (hl : l.length < 8796093022000) : Calls Tryz.prog 47 #[.slice B l.length c, strV y] w fun e w' => ∃ g, e = .returned (.slice (some ⟨g, 0, none⟩) (l.length + 80) (l.length + 80)) ∧ Hp w0 ([row g 9 (cel cS (l ++ List.replicate 80 y))] :: R) w' := by
  refine vc_enter Tryz.func47 rfl Tryz.ntmps47 (Nat.le_of_ble_eq_true rfl) (fun a hF => ?_)
  apply wp_seq_k; intro K1 hK1
  refine wp_region_lit ?_
  refine vc_y hF rfl rfl (by decide) _ (y_assign rfl rfl) (fun a hF => ?_)
  refine vc_nil ?_
  refine hK1 _ _ ?_; clear  hK1 K1
  apply wp_seq_k; intro K2 hK2
  refine wp_region_lit ?_
  refine vc_y hF rfl rfl (by decide) _ (y_move rfl rfl) (fun a hF => ?_)
  refine vc_y hF rfl rfl (by decide) _ (y_lenSl rfl Tryz.underlying23 rfl rfl) (fun a hF => ?_)
  refine vc_y hF rfl rfl (by decide) _ (y_add rfl rfl rfl (IntWalk.i64_in _ (by omega))) (fun a hF => ?_)
  refine vc_op rfl (fun K hK => hs_makeU (size := 1) (bytes := 16) (u := strV []) hF rfl (by decide) rfl hA Tryz.underlying23 kb_mk_string (by decide) (l.length + 80) rfl rfl (by omega) (by omega) (by omega) (by omega) (fun b1 w2 a hb1 hF hA3 => hK _ _ ?_))
  clear hK K
  replace hA3 : Hp w0 ([row b1 9 (List.replicate ((l.length + 80) * 1) (strV []))] :: R) w2 := hA3
  have hA4 : Hp w0 ([row b1 9 (cel cS (List.replicate (l.length + 80) ([] : List UInt8)))] :: R) w2 := by rw [← cel_zero (C := cS) (sz := 1) (z := ([] : List UInt8)) (u := strV []) rfl]; exact hA3
  refine vc_y hF rfl rfl (by decide) _ (y_assign rfl rfl) (fun a hF => ?_)
  refine vc_nil ?_
  refine hK2 _ _ ?_; clear  hK2 K2
  apply wp_seq_k; intro K3 hK3
  refine wp_region_lit ?_
  refine vc_y hF rfl rfl (by decide) _ (y_move rfl rfl) (fun a hF => ?_)
  refine vc_y hF rfl rfl (by decide) _ (y_move rfl rfl) (fun a hF => ?_)
  refine vc_op rfl (fun K hK => hs_copyC (size := 1) hF rfl (by decide) rfl hA4 Tryz.underlying23 kb_sz_string (by decide) rfl rfl l.length (Nat.min_eq_left (by omega)).symm (cel_len hl1) hB (Hq.sub hA4.q (subC (sub0))) (cel_one_string hl1) 0 0 rfl (fun _ => rfl) (by rw [cel_len hl1, cel_len (sz := 1) (fun x hx => by rw [List.eq_of_mem_replicate hx]; rfl), List.length_replicate]; omega) (fun w5 a hF hA6 => hK _ _ ?_))
  clear hK K
  replace hA6 : Hp w0 ([row b1 9 (splice (cel cS (List.replicate (l.length + 80) ([] : List UInt8))) 0 (cel cS l))] :: R) w5 := hA6
  have hA7 : Hp w0 ([row b1 9 (cel cS (l ++ List.replicate 0 y ++ List.replicate (80 - 0) ([] : List UInt8)))] :: R) w5 := by
    have e := cel_splice0 (C := cS) (sz := 1) (l := List.replicate (l.length + 80) ([] : List UInt8)) (m := l) (fun x hx => by rw [List.eq_of_mem_replicate hx]; rfl) hl1 (by rw [List.length_replicate]; omega)
    rw [List.drop_replicate, show l.length + 80 - l.length = 80 - 0 by omega] at e
    rw [List.replicate_zero, List.append_nil, ← e]; exact hA6
  refine vc_nil ?_
  refine hK3 _ _ ?_; clear  hK3 K3
  apply wp_seq_k; intro K4 hK4
  apply wp_seq_k; intro K5 hK5
  refine wp_region_lit ?_
  refine vc_y hF rfl rfl (by decide) _ (y_move rfl rfl) (fun a hF => ?_)
  refine vc_y hF rfl rfl (by decide) _ (y_lenSl rfl Tryz.underlying23 rfl rfl) (fun a hF => ?_)
  refine vc_y hF rfl rfl (by decide) _ (y_assign rfl rfl) (fun a hF => ?_)
  refine vc_nil ?_
  refine hK5 _ _ ?_; clear  hK5 K5
  apply wp_block
  refine vc_loop (G := Nat) (fun j a x => j ≤ 80 ∧ Fr 27 [(6, .int .i64 ((l.length + j : Nat) : Int)), (0, .slice B l.length c), (5, .slice (some ⟨b1, 0, none⟩) (l.length + 80) (l.length + 80)), (1, strV y)] a ∧ Hp w0 ([row b1 9 (cel cS (l ++ List.replicate j y ++ List.replicate (80 - j) ([] : List UInt8)))] :: R) x) (fun j => 80 - j) 0 (⟨Nat.zero_le _, hF.keep [6, 0, 5, 1] rfl, hA7⟩) ?_
  clear hF
  rintro j a w9 ⟨hj, hF, hA8⟩
  apply wp_seq_k; intro K6 hK6
  apply wp_seq_k; intro K7 hK7
  refine wp_region_lit ?_
  refine vc_y hF rfl rfl (by decide) _ (y_move rfl rfl) (fun a hF => ?_)
  refine vc_y hF rfl rfl (by decide) _ (y_move rfl rfl) (fun a hF => ?_)
  refine vc_y hF rfl rfl (by decide) _ (y_lenSl rfl Tryz.underlying23 rfl rfl) (fun a hF => ?_)
  refine vc_y hF rfl rfl (by decide) _ (y_cmp rfl rfl rfl rfl rfl) (fun a hF => ?_)
  refine vc_nil ?_
  refine hK7 _ _ ?_; clear  hK7 K7
  by_cases hlt : l.length + j < l.length + 80
  · refine vc_trueB hF rfl (lss_t (by omega)) ?_
    apply wp_skip
    refine hK6 _ _ ?_; clear  hK6 K6
    apply wp_seq_k; intro K8 hK8
    apply wp_block
    refine wp_region_lit ?_
    refine vc_y hF rfl rfl (by decide) _ (y_move rfl rfl) (fun a hF => ?_)
    refine vc_y hF rfl rfl (by decide) _ (y_move rfl rfl) (fun a hF => ?_)
    refine vc_y hF rfl rfl (by decide) _ (y_move rfl rfl) (fun a hF => ?_)
    refine vc_y hF rfl rfl (by decide) _ (y_ixSl rfl Tryz.underlying23 sz9_kb rfl rfl (l.length + j) rfl (by omega) (ad2 _ _ _)) (fun a hF => ?_)
    have hfl : ∀ x ∈ l ++ List.replicate j y ++ List.replicate (80 - j) ([] : List UInt8), (cS x).length = 1 := fun x hx => by
      rcases List.mem_append.1 hx with hx | hx
      · rcases List.mem_append.1 hx with hx | hx
        · exact hl1 x hx
        · rw [List.eq_of_mem_replicate hx]; exact hy1
      · rw [List.eq_of_mem_replicate hx]; rfl
    have hflen : (l ++ List.replicate j y ++ List.replicate (80 - j) ([] : List UInt8)).length = l.length + 80 := by rw [List.length_append, List.length_append, List.length_replicate, List.length_replicate]; omega
    refine vc_op rfl (fun K hK => hs_store1 hF rfl rfl hA8 rfl rfl 0 rfl (by rw [cel_len hfl, hflen]; omega) rfl sz9_kb (fun w10 hA11 => hK _ _ ?_))
    clear hK K
    replace hA11 : Hp w0 ([row b1 9 ((cel cS (l ++ List.replicate j y ++ List.replicate (80 - j) ([] : List UInt8))).set (0 + (l.length + j)) (strV y))] :: R) w10 := hA11
    have hA12 : Hp w0 ([row b1 9 (cel cS (l ++ List.replicate (j + 1) y ++ List.replicate (80 - (j + 1)) ([] : List UInt8)))] :: R) w10 := by
      rw [← fill_set, ← show 80 - j = 80 - (j + 1) + 1 by omega, ← cel_set1 hfl (by rw [hflen]; omega) (u := strV y) rfl, ← Nat.zero_add (l.length + j)]; exact hA11
    refine vc_nil ?_
    refine hK8 _ _ ?_; clear  hK8 K8
    refine wp_region_lit ?_
    refine vc_y hF rfl rfl (by decide) _ (y_move rfl rfl) (fun a hF => ?_)
    refine vc_y hF rfl rfl (by decide) _ (y_add rfl rfl rfl (IntWalk.i64_in _ (by omega))) (fun a hF => ?_)
    refine vc_y hF rfl rfl (by decide) _ (y_assign rfl rfl) (fun a hF => ?_)
    refine vc_nil ?_
    exact ⟨j + 1, by omega, by omega, hF.keep [6, 0, 5, 1] rfl, hA12⟩
  · refine vc_falseB hF rfl (lss_f (by omega)) ?_
    obtain rfl : j = 80 := by omega
    apply wp_exit
    refine hK4 _ _ ?_; clear hK6 K6 hK4 K4
    apply wp_seq_k; intro K9 hK9
    refine wp_region_lit ?_
    refine vc_y hF rfl rfl (by decide) _ (y_move rfl rfl) (fun a hF => ?_)
    refine vc_y hF rfl rfl (by decide) _ (y_assign rfl rfl) (fun a hF => ?_)
    refine vc_nil ?_
    refine hK9 _ _ ?_; clear  hK9 K9
    apply wp_ret
    refine vc_ret1 hF Tryz.results47 rfl ?_
    rw [Nat.sub_self, List.replicate_zero, List.append_nil] at hA8
    exact ⟨_, rfl, hA8⟩

set_option maxRecDepth 100000 in
set_option maxHeartbeats 4000000 in
theorem kb_intact_string (w0 w : World) (R : List Seg) (B B2 : Option Addr) (l : List (List UInt8)) (c c2 : Nat) (y : List UInt8) (hB : Rc w0 R B (cel cS (l ++ List.replicate 80 y))) (hB2 : Rc w0 R B2 (cel cS l)) (hl1 : ∀ x ∈ l, (cS x).length = 1) (hy1 : (cS y).length = 1) (hc : l.length + 80 ≤ c) (hA : Hp w0 R w) (hl : l.length < 8796093022000) : Calls Tryz.prog 51 #[.slice B (l.length + 80) c, .slice B2 l.length c2, strV y] w fun e w' => e = .returned (.bool true) ∧ Hp w0 R w' := by
  have hlen1 : (cel cS l).length = l.length * 1 := cel_len hl1
  have hpre : Rc w0 R B (cel cS l) := by
    have h1 := hB.take (cel cS l).length
    rwa [cel_append, List.take_left] at h1
  have hfl : ∀ x ∈ l ++ List.replicate 80 y, (cS x).length = 1 := fun x hx => by
    rcases List.mem_append.1 hx with hx | hx
    · exact hl1 x hx
    · rw [List.eq_of_mem_replicate hx]; exact hy1
  refine vc_enter Tryz.func51 rfl Tryz.ntmps51 (Nat.le_of_ble_eq_true rfl) (fun a hF => ?_)
  apply wp_seq_k; intro K1 hK1
  refine wp_region_lit ?_
  refine vc_y hF rfl rfl (by decide) _ (y_assign rfl rfl) (fun a hF => ?_)
  refine vc_nil ?_
  refine hK1 _ _ ?_; clear  hK1 K1
  apply wp_seq_k; intro K2 hK2
  apply wp_seq_k; intro K3 hK3
  refine wp_region_lit ?_
  refine vc_y hF rfl rfl (by decide) _ (y_move rfl rfl) (fun a hF => ?_)
  refine vc_y hF rfl rfl (by decide) _ (y_lenSl rfl Tryz.underlying23 rfl rfl) (fun a hF => ?_)
  refine vc_y hF rfl rfl (by decide) _ (y_move rfl rfl) (fun a hF => ?_)
  refine vc_y hF rfl rfl (by decide) _ (y_lenSl rfl Tryz.underlying23 rfl rfl) (fun a hF => ?_)
  refine vc_y hF rfl rfl (by decide) _ (y_add rfl rfl rfl (IntWalk.i64_in _ (by omega))) (fun a hF => ?_)
  refine vc_y hF rfl rfl (by decide) _ (y_cmp rfl rfl rfl rfl (neq_f (by omega))) (fun a hF => ?_)
  refine vc_y hF rfl rfl (by decide) _ (y_move rfl rfl) (fun a hF => ?_)
  refine vc_yg hF rfl rfl rfl rfl rfl (by decide) _ (y_move rfl rfl) (fun a hF => ?_)
  refine vc_yg hF rfl rfl rfl rfl rfl (by decide) _ (y_move rfl rfl) (fun a hF => ?_)
  refine vc_yg hF rfl rfl rfl rfl rfl (by decide) _ (y_lenSl rfl Tryz.underlying23 rfl rfl) (fun a hF => ?_)
  refine vc_yg hF rfl rfl rfl rfl rfl (by decide) _ (y_slice rfl Tryz.underlying23 kb_sz_string rfl (.none 0) (.some rfl rfl) (Nat.zero_le _) (by omega) slice_to) (fun a hF => ?_)
  refine vc_yg hF rfl rfl rfl rfl rfl (by decide) _ (y_move rfl rfl) (fun a hF => ?_)
  refine vc_opg hF rfl rfl rfl rfl (fun K hK => ws_call hF rfl (by decide) cl92_kb rfl rfl ?_)
  with_reducible refine (kb_same_string w0 _ R B B2 l l c c2 (hpre.mono (sub0)) (hB2.mono (sub0)) hl1 hl1 hA (by omega) ).mono ?_
  rintro e' w1 ⟨rfl, hA2⟩
  refine ⟨_, rfl, fun a hF => hK _ _ ?_⟩
  clear hK K
  replace hA2 : Hp w0 (R) w1 := hA2
  rw [decide_eq_true rfl] at hF
  refine vc_yg hF rfl rfl rfl rfl rfl (by decide) _ (y_not rfl rfl rfl) (fun a hF => ?_)
  refine vc_y hF rfl rfl (by decide) _ (y_pick rfl rfl rfl) (fun a hF => ?_)
  refine vc_nil ?_
  refine hK3 _ _ ?_; clear  hK3 K3
  refine vc_false hF rfl ?_
  apply wp_skip
  refine hK2 _ _ ?_; clear  hK2 K2
  apply wp_seq_k; intro K4 hK4
  apply wp_seq_k; intro K5 hK5
  refine wp_region_lit ?_
  refine vc_y hF rfl rfl (by decide) _ (y_move rfl rfl) (fun a hF => ?_)
  refine vc_y hF rfl rfl (by decide) _ (y_lenSl rfl Tryz.underlying23 rfl rfl) (fun a hF => ?_)
  refine vc_y hF rfl rfl (by decide) _ (y_assign rfl rfl) (fun a hF => ?_)
  refine vc_nil ?_
  refine hK5 _ _ ?_; clear  hK5 K5
  apply wp_block
  refine vc_loop (G := Nat) (fun j a x => j ≤ 80 ∧ Fr 37 [(7, .int .i64 ((l.length + j : Nat) : Int)), (0, .slice B (l.length + 80) c), (2, strV y)] a ∧ Hp w0 (R) x) (fun j => 80 - j) 0 (⟨Nat.zero_le _, hF.keep [7, 0, 2] rfl, hA2⟩) ?_
  clear hF
  rintro j a w4 ⟨hj, hF, hA3⟩
  apply wp_seq_k; intro K6 hK6
  apply wp_seq_k; intro K7 hK7
  refine wp_region_lit ?_
  refine vc_y hF rfl rfl (by decide) _ (y_move rfl rfl) (fun a hF => ?_)
  refine vc_y hF rfl rfl (by decide) _ (y_move rfl rfl) (fun a hF => ?_)
  refine vc_y hF rfl rfl (by decide) _ (y_lenSl rfl Tryz.underlying23 rfl rfl) (fun a hF => ?_)
  refine vc_y hF rfl rfl (by decide) _ (y_cmp rfl rfl rfl rfl rfl) (fun a hF => ?_)
  refine vc_nil ?_
  refine hK7 _ _ ?_; clear  hK7 K7
  by_cases hlt : l.length + j < l.length + 80
  · refine vc_trueB hF rfl (lss_t (by omega)) ?_
    have hat : (l ++ List.replicate 80 y)[l.length + j]? = some y := by rw [List.getElem?_append_right (by omega), Nat.add_sub_cancel_left, List.getElem?_replicate, if_pos (by omega)]
    obtain ⟨hc1, hc2⟩ := cel_at1 (u := strV y) hfl hat rfl
    obtain ⟨b, o, rfl, hc⟩ := hB.ne (i := l.length + j) hc2
    apply wp_skip
    refine hK6 _ _ ?_; clear  hK6 K6
    apply wp_seq_k; intro K8 hK8
    apply wp_block
    apply wp_seq_k; intro K9 hK9
    refine wp_region_lit ?_
    refine vc_y hF rfl rfl (by decide) _ (y_move rfl rfl) (fun a hF => ?_)
    refine vc_y hF rfl rfl (by decide) _ (y_move rfl rfl) (fun a hF => ?_)
    refine vc_y hF rfl rfl (by decide) _ (y_ixSl rfl Tryz.underlying23 sz9_kb rfl rfl (l.length + j) rfl (by omega) (ad2 _ _ _)) (fun a hF => ?_)
    refine vc_y hF rfl rfl (by decide) _ (y_ldC (u := strV y) rfl (Hq.sub hA3.q (sub0)) rfl hc (l.length + j) hc2 rfl hc1 nr9_kb) (fun a hF => ?_)
    refine vc_y hF rfl rfl (by decide) _ (y_move rfl rfl) (fun a hF => ?_)
    refine vc_y hF rfl rfl (by decide) _ (y_cmpS (c := false) rfl rfl rfl rfl (strB_neq_f _)) (fun a hF => ?_)
    refine vc_nil ?_
    refine hK9 _ _ ?_; clear  hK9 K9
    refine vc_false hF rfl ?_
    apply wp_skip
    refine hK8 _ _ ?_; clear  hK8 K8
    refine wp_region_lit ?_
    refine vc_y hF rfl rfl (by decide) _ (y_move rfl rfl) (fun a hF => ?_)
    refine vc_y hF rfl rfl (by decide) _ (y_add rfl rfl rfl (IntWalk.i64_in _ (by omega))) (fun a hF => ?_)
    refine vc_y hF rfl rfl (by decide) _ (y_assign rfl rfl) (fun a hF => ?_)
    refine vc_nil ?_
    exact ⟨j + 1, by omega, by omega, hF.keep [7, 0, 2] rfl, hA3⟩
  · refine vc_falseB hF rfl (lss_f (by omega)) ?_
    apply wp_exit
    refine hK4 _ _ ?_; clear hK6 K6 hK4 K4
    apply wp_seq_k; intro K10 hK10
    refine wp_region_lit ?_
    refine vc_y hF rfl rfl (by decide) _ (y_assign rfl rfl) (fun a hF => ?_)
    refine vc_nil ?_
    refine hK10 _ _ ?_; clear  hK10 K10
    apply wp_ret
    refine vc_ret1 hF Tryz.results51 rfl ?_
    exact ⟨rfl, hA3⟩

end Go.Proofs.YtepbmdlgdaedpaaGreatDoor
