/- The digest's table: Of with whatever pieces, Text, and the sums. -/
import Derived.Test.YtpomngkcfbnjoaaDoorLawSplits
import Derived.Test.YtpomngkcfbnjoaaDoorOctetW
import Derived.Test.YtpomngkcfbnjoaaDoorMore
namespace Go.Proofs.YtpomngkcfbnjoaaDoor
open Go.RowKit Go.Dk

theorem Pieces.fresh {w0 w : World} {L : List Row} {pa : Option Addr} {ps : List Part} (h : Pieces w0 pa ps) (hA : At w0 L w) (hn : ∀ r ∈ L, w0.heap.size ≤ (r : Row).1) : Pieces w pa ps := by
  refine ⟨fun hne => ?_, fun A c l hm => ⟨(h.2 A c l hm).1, (h.2 A c l hm).2.fresh hA hn⟩⟩
  obtain ⟨b, o, he, hb, hc⟩ := h.1 hne
  refine ⟨b, o, he, Nat.lt_of_lt_of_le hb hA.size, fun i A c l hi => ?_⟩
  rw [hA.old hb (fun hm => by
    obtain ⟨r, hr, e⟩ := List.mem_map.1 hm
    have h1 := hn r hr
    have h2 : r.1 = b := e
    omega)]
  exact hc i A c l hi
theorem Pieces.nil (w : World) : Pieces w none [] := ⟨fun h => absurd rfl h, fun _ _ _ h => by cases h⟩
/-- the pieces of a literal's row -/
theorem Pieces.row {w0 w : World} {L : List Row} {g k : Nat} {t : TypeId} {ps : List Part} (hA : At w0 L w) (hk : L[k]? = some (g, t, ps.map fun p => Value.slice p.1 p.2.2.length p.2.1)) (hp : ∀ A c l, (A, c, l) ∈ ps → l.length ≤ c ∧ Bts w A l) : Pieces w (some ⟨g, 0, none⟩) ps := by
  refine ⟨fun _ => ⟨g, 0, rfl, hA.lt hk, fun i A c l hi => ?_⟩, hp⟩
  rw [Nat.zero_add, hA.cell hk, List.getElem?_map, hi]
  rfl
theorem tb_part2 (A B : Option Addr) (n c m d : Nat) (w : World) : (Instr.buildSlice 35 2 #[(0, .slice A n c), (1, .slice B m d)]).run Tryd.prog w = .ok (.slice (some ⟨w.heap.size, 0, none⟩) 2 2) (w.alloc (.cells #[.slice A n c, .slice B m d] 59)) := by kernel_rfl
theorem tb_part3 (A B C : Option Addr) (n c m d k e : Nat) (w : World) : (Instr.buildSlice 35 3 #[(0, .slice A n c), (1, .slice B m d), (2, .slice C k e)]).run Tryd.prog w = .ok (.slice (some ⟨w.heap.size, 0, none⟩) 3 3) (w.alloc (.cells #[.slice A n c, .slice B m d, .slice C k e] 59)) := by kernel_rfl
def ofL (width : Int) (dom : UInt8) (l : List UInt8) : List UInt8 := cutL (sha (dom :: l)) width
theorem ofL_length (width : Int) (dom : UInt8) (l : List UInt8) : (ofL width dom l).length = 32 := cutL_length _ _ (sha_length _)
theorem flat_two (A B : Option Addr) (c d : Nat) (l m : List UInt8) : flat [(A, c, l), (B, d, m)] = l ++ m := by simp [flat]
theorem flat_three (A B C : Option Addr) (c d e : Nat) (l m k : List UInt8) : flat [(A, c, l), (B, d, m), (C, e, k)] = l ++ m ++ k := by simp [flat]
theorem tb_row36 {D : List UInt8} (h : D.length = 32) : isRow Tryd.prog 23 (dc D).length = true := by rw [dc_length, h]; exact row36
theorem tb_z {D : List UInt8} (h : D.length = 32) : (dc D).length = (dc (List.replicate 32 (0 : UInt8))).length := by rw [dc_length, h]; rfl
theorem tb_s : (Tryd.prog.info? 23).map (·.size) = some (dc (List.replicate 32 (0 : UInt8))).length := by rw [size36]; rfl
theorem tb_arr {D : List UInt8} (_h : D.length = 32) {w0 w : World} {L : List Row} {g k : Nat} {t : TypeId} (hA : At w0 L w) (hk : L[k]? = some (g, t, dc D)) : Bts w (some ⟨g, 0, none⟩) D := Bts.row hA hk (by rw [List.drop_zero]; exact List.take_of_length_le (by rw [dc_length]; exact Nat.le_refl _))
theorem sz24_tb : (Tryd.prog.info? 59).map (·.size) = some 1 := by kernel_rfl
theorem cl13_tb : CallsTo Tryd.prog 61 := ⟨_, Tryd.func61, by kernel_rfl, by kernel_rfl⟩
theorem cl14_tb : CallsTo Tryd.prog 62 := ⟨_, Tryd.func62, by kernel_rfl, by kernel_rfl⟩
theorem cl15_tb : CallsTo Tryd.prog 63 := ⟨_, Tryd.func63, by kernel_rfl, by kernel_rfl⟩
theorem cl51_tb : CallsTo Tryd.prog 102 := ⟨_, Tryd.func102, by kernel_rfl, by kernel_rfl⟩
theorem cl56_tb : CallsTo Tryd.prog 28 := ⟨_, Tryd.func28, by kernel_rfl, by kernel_rfl⟩
set_option maxRecDepth 100000 in
set_option maxHeartbeats 1000000 in
theorem of_all (w : World) (width : Int) (dom : UInt8) (di : Int) (hdi : IntKind.u8.wrap di = (dom.toNat : Int)) (pa : Option Addr) (ps : List Part) (c n : Nat) (hn : n = ps.length) (hP : Pieces w pa ps) (hlen : (flat ps).length < 140737488355000) (hnb : n < 9223372036854775807) (hT : Tab w) :
    Calls Tryd.prog 102 #[.int .i64 width, .int .i64 di, .slice pa n c] w fun e w' => e = .returned (.agg (dc (ofL width dom (flat ps))).toArray) ∧ At w [] w' := by
  subst hn
  have hA0 := At.refl w
  have hpos : 0 < w.heap.size := hT.lt
  have hfl : ∀ j, (flat (ps.take j)).length ≤ (flat ps).length := fun j => by
    have h2 : flat ps = flat (ps.take j) ++ flat (ps.drop j) := by unfold flat; rw [← List.flatMap_append, List.take_append_drop]
    rw [h2, List.length_append]; omega
  refine vc_enter Tryd.func102 rfl Tryd.ntmps102 (Nat.le_of_ble_eq_true rfl) (fun a hF => ?_)
  apply wp_seq_k; intro K1 hK1
  refine wp_region_lit ?_
  refine vc_op rfl (fun K hK => ws_alloc hF rfl (by decide) rfl hA0 zero36 (fun b2 w1 a hb2 hF hA1 => hK _ _ ?_))
  clear hK K
  refine vc_nil ?_
  refine hK1 _ _ ?_; clear  hK1 K1
  apply wp_seq_k; intro K2 hK2
  refine wp_region_lit ?_
  refine vc_op rfl (fun K hK => ws_call hF rfl (by decide) cl13_tb rfl rfl ?_)
  with_reducible refine (new_any w1).mono ?_
  rintro e' w2 ⟨b3, cs0, rfl, hb3, hH0, hc2⟩
  refine ⟨_, rfl, fun a hF => hK _ _ ?_⟩; clear hK K
  have hA2 : At w [(b3, 147, cs0), (b2, 23, dc (List.replicate 32 0))] w2 := hA1.thenNew hc2 (one_new hb3)
  clear hc2
  have q3 : w.heap.size ≤ b3 := by have := hA1.size; omega
  have l3 : b2 < b3 := by have := hA1.lt (k := 0) rfl; omega
  refine vc_y hF rfl rfl (by decide) _ (y_assign rfl rfl) (fun a hF => ?_)
  refine vc_nil ?_
  refine hK2 _ _ ?_; clear  hK2 K2
  apply wp_seq_k; intro K3 hK3
  refine wp_region_lit ?_
  refine vc_y hF rfl rfl (by decide) _ (y_move rfl rfl) (fun a hF => ?_)
  refine vc_y hF rfl rfl (by decide) _ (y_move rfl rfl) (fun a hF => ?_)
  refine vc_y hF rfl rfl (by decide) _ (y_conv rfl Tryd.underlying3 Tryd.underlying5 rfl hdi) (fun a hF => ?_)
  refine vc_op rfl (fun K hK => ws_byte1 hF rfl (by decide) rfl hA2 dom rfl build_byte (fun b4 w3 a hb4 hF hA3 => hK _ _ ?_))
  clear hK K
  have q4 : w.heap.size ≤ b4 := by have := hA2.size; omega
  have l4 : b3 < b4 := by have := hA2.lt (k := 0) rfl; omega
  have hnr : ∀ cs, ∀ r ∈ [(b4, 5, dc [dom]), (b3, 147, cs), (b2, 23, dc (List.replicate 32 0))], w.heap.size ≤ (r : Row).1 := fun _ => cons_new q4 (cons_new q3 (one_new hb2))
  refine vc_op rfl (fun K hK => ws_call hF rfl (by decide) cl14_tb rfl rfl ?_)
  with_reducible refine (write_at w3 b3 [] cs0 hH0 (hA3.row (k := 1) rfl) (some ⟨b4, 0, none⟩) [dom] 1 1 rfl (Bts.row hA3 (k := 0) rfl rfl) (Nat.le_refl _) (fun _ => off_some (by omega)) (by simp) (hT.at_ hA3 (not0w hpos (hnr _))) (by omega)).mono ?_
  rintro e' w4 ⟨rfl, cs1, hH1, hc4⟩
  refine ⟨_, rfl, fun a hF => hK _ _ ?_⟩; clear hK K
  have hA4 : At w [(b4, 5, dc [dom]), (b3, 147, cs1), (b2, 23, dc (List.replicate 32 0))] w4 := hA3.then1 (k := 1) rfl hc4
  clear hc4
  replace hH1 : HS (dom :: flat (ps.take 0)) cs1 := hH1
  refine vc_nil ?_
  refine hK3 _ _ ?_; clear  hK3 K3
  apply wp_seq_k; intro K4 hK4
  apply wp_seq_k; intro K5 hK5
  refine wp_region_lit ?_
  refine vc_y hF rfl rfl (by decide) _ (y_move rfl rfl) (fun a hF => ?_)
  refine vc_y hF rfl rfl (by decide) _ (y_lenSl rfl Tryd.underlying35 rfl rfl) (fun a hF => ?_)
  refine vc_y hF rfl rfl (by decide) _ (y_move rfl rfl) (fun a hF => ?_)
  refine vc_nil ?_
  refine hK5 _ _ ?_; clear  hK5 K5
  apply wp_block
  refine vc_loop (G := Nat) (fun i a x => i ≤ ps.length ∧ ∃ cs, Fr 30 [(18, .int .i64 (i : Int)), (0, .int .i64 width), (7, .pointer (some ⟨b3, 0, none⟩)), (6, .pointer (some ⟨b2, 0, none⟩)), (16, .slice pa ps.length c), (17, .int .i64 (ps.length : Int))] a ∧ HS (dom :: flat (ps.take i)) cs ∧ At w [(b4, 5, dc [dom]), (b3, 147, cs), (b2, 23, dc (List.replicate 32 0))] x) (fun i => ps.length - i) 0 ⟨Nat.zero_le _, cs1, hF.keep [18, 0, 7, 6, 16, 17] rfl, hH1, hA4⟩ ?_
  clear hF
  rintro i a wr ⟨hi, cs, hF, hH, hAr⟩
  by_cases hlt : i < ps.length
  · have hPr := hP.fresh hAr (hnr cs)
    have hne : ps ≠ [] := fun e => by rw [e] at hlt; exact absurd hlt (Nat.not_lt_zero _)
    obtain ⟨b, o, rfl, hbl, hcells⟩ := hPr.1 hne
    obtain ⟨⟨A, cA, l⟩, hp⟩ : ∃ q, ps[i]? = some q := ⟨_, List.getElem?_eq_getElem hlt⟩
    have hcell := hcells i A cA l hp
    obtain ⟨hlc, hBl⟩ := hPr.2 A cA l (List.mem_of_getElem? hp)
    have hB0 := (hP.2 A cA l (List.mem_of_getElem? hp)).2
    have hft := flat_take hp
    have hfle := flat_le hp
    have hfi := hfl i
    apply wp_seq_k; intro K6 hK6
    refine wp_region_lit ?_
    refine vc_y hF rfl rfl (by decide) _ (y_cmp rfl rfl rfl rfl rfl) (fun a hF => ?_)
    refine vc_nil ?_
    refine hK6 _ _ ?_; clear  hK6 K6
    apply wp_seq_k; intro K7 hK7
    refine vc_trueB hF rfl (lss_t (by omega)) ?_
    apply wp_skip
    refine hK7 _ _ ?_; clear  hK7 K7
    apply wp_seq_k; intro K8 hK8
    apply wp_block
    apply wp_seq_k; intro K9 hK9
    refine wp_region_lit ?_
    refine vc_y hF rfl rfl (by decide) _ (y_ixSl rfl Tryd.underlying35 sz24_tb rfl rfl i rfl hlt (ad2 _ _ _)) (fun a hF => ?_)
    refine vc_y hF rfl rfl (by decide) _ (y_load1 rfl rfl hcell no24) (fun a hF => ?_)
    refine vc_y hF rfl rfl (by decide) _ (y_assign rfl rfl) (fun a hF => ?_)
    refine vc_nil ?_
    refine hK9 _ _ ?_; clear  hK9 K9
    refine wp_region_lit ?_
    refine vc_y hF rfl rfl (by decide) _ (y_move rfl rfl) (fun a hF => ?_)
    refine vc_y hF rfl rfl (by decide) _ (y_move rfl rfl) (fun a hF => ?_)
    refine vc_op rfl (fun K hK => ws_call hF rfl (by decide) cl14_tb rfl rfl ?_)
    with_reducible refine (write_at wr b3 _ cs hH (hAr.row (k := 1) rfl) A l cA l.length rfl hBl hlc (bts_off hB0 q3) (by simp only [List.length_cons]; omega) (hT.at_ hAr (not0w hpos (hnr _))) (by omega)).mono ?_
    rintro e' w6 ⟨rfl, cs2, hH2, hc6⟩
    refine ⟨_, rfl, fun a hF => hK _ _ ?_⟩; clear hK K
    have hA6 : At w [(b4, 5, dc [dom]), (b3, 147, cs2), (b2, 23, dc (List.replicate 32 0))] w6 := hAr.then1 (k := 1) rfl hc6
    clear hc6
    replace hH2 : HS (dom :: flat (ps.take (i + 1))) cs2 := by rw [hft]; exact hH2
    refine vc_nil ?_
    refine hK8 _ _ ?_; clear  hK8 K8
    refine wp_region_lit ?_
    refine vc_y hF rfl rfl (by decide) _ (y_add rfl rfl rfl (IntWalk.i64_in _ (by omega))) (fun a hF => ?_)
    refine vc_y hF rfl rfl (by decide) _ (y_move rfl rfl) (fun a hF => ?_)
    refine vc_nil ?_
    exact ⟨i + 1, by omega, by omega, cs2, hF.keep [18, 0, 7, 6, 16, 17] rfl, hH2, hA6⟩
  · obtain rfl : i = ps.length := by omega
    rw [flat_all] at hH
    apply wp_seq_k; intro K10 hK10
    refine wp_region_lit ?_
    refine vc_y hF rfl rfl (by decide) _ (y_cmp rfl rfl rfl rfl rfl) (fun a hF => ?_)
    refine vc_nil ?_
    refine hK10 _ _ ?_; clear  hK10 K10
    apply wp_seq_k; intro K11 hK11
    refine vc_falseB hF rfl (lss_f (by omega)) ?_
    apply wp_exit
    refine hK4 _ _ ?_; clear hK11 K11 hK4 K4
    apply wp_seq_k; intro K12 hK12
    refine wp_region_lit ?_
    refine vc_y hF rfl rfl (by decide) _ (y_move rfl rfl) (fun a hF => ?_)
    refine vc_op rfl (fun K hK => ws_call hF rfl (by decide) cl15_tb rfl rfl ?_)
    with_reducible refine (sum_any wr b3 _ cs hH (hAr.row (k := 1) rfl) (by simp only [List.length_cons]; omega) (hT.at_ hAr (not0w hpos (hnr _))) (by omega)).mono ?_
    rintro e' w7 ⟨rfl, hc7⟩
    refine ⟨_, rfl, fun a hF => hK _ _ ?_⟩; clear hK K
    have hA7 : At w [(b4, 5, dc [dom]), (b3, 147, cs), (b2, 23, dc (List.replicate 32 0))] w7 := hAr.then0 hc7
    clear hc7
    refine vc_y hF rfl rfl (by decide) _ (y_move rfl rfl) (fun a hF => ?_)
    refine vc_op rfl (fun K hK => ws_call hF rfl (by decide) cl56_tb rfl rfl ?_)
    with_reducible refine (cut_any _ width w7 (sha_length _)).mono ?_
    rintro e' w8 ⟨rfl, hc8⟩
    refine ⟨_, rfl, fun a hF => hK _ _ ?_⟩; clear hK K
    have hA8 : At w [(b4, 5, dc [dom]), (b3, 147, cs), (b2, 23, dc (List.replicate 32 0))] w8 := hA7.then0 hc8
    clear hc8
    refine vc_op rfl (fun K hK => ws_storeAll hF rfl rfl hA8 rfl rfl 2 rfl (tb_z (cutL_length _ _ (sha_length _))) (dc_one _) tb_s (fun w9 hA9 => hK _ _ ?_))
    clear hK K
    refine vc_nil ?_
    refine hK12 _ _ ?_; clear  hK12 K12
    apply wp_ret
    refine vc_retc hF Tryd.results102 hA9 rfl 2 rfl (tb_row36 (cutL_length _ _ (sha_length _))) ?_
    exact ⟨rfl, hA9.clear (cons_new q4 (cons_new q3 (one_new hb2)))⟩

set_option maxRecDepth 100000 in
set_option maxHeartbeats 1000000 in
theorem branch_all (w : World) (width : Int) (X Y : List UInt8) (hX : X.length = 32) (hY : Y.length = 32) (hT : Tab w) :
    Calls Tryd.prog 96 #[.int .i64 width, .agg (dc X).toArray, .agg (dc Y).toArray] w fun e w' => e = .returned (.agg (dc (ofL width 4 (X ++ Y))).toArray) ∧ At w [] w' := by
  have hA0 := At.refl w
  have hpos : 0 < w.heap.size := hT.lt
  refine vc_enter Tryd.func96 rfl Tryd.ntmps96 (Nat.le_of_ble_eq_true rfl) (fun a hF => ?_)
  apply wp_seq_k; intro K1 hK1
  refine wp_region_lit ?_
  refine vc_op rfl (fun K hK => ws_box (cs := dc X) hF rfl (by decide) rfl hA0 rfl (fun b2 w1 a hb2 hF hA1 => hK _ _ ?_))
  clear hK K
  refine vc_op rfl (fun K hK => ws_box (cs := dc Y) hF rfl (by decide) rfl hA1 rfl (fun b3 w2 a hb3 hF hA2 => hK _ _ ?_))
  clear hK K
  have q3 : w.heap.size ≤ b3 := by have := hA1.size; omega
  refine vc_op rfl (fun K hK => ws_alloc hF rfl (by decide) rfl hA2 zero36 (fun b4 w3 a hb4 hF hA3 => hK _ _ ?_))
  clear hK K
  replace hA3 : At w [(b4, 23, dc (List.replicate 32 0)), (b3, 23, dc Y), (b2, 23, dc X)] w3 := hA3
  refine vc_nil ?_
  refine hK1 _ _ ?_; clear  hK1 K1
  apply wp_seq_k; intro K2 hK2
  refine wp_region_plan 4 [3,4,5] [0,1,2,3,4,5] (fun _ => True) (by kernel_rfl) (by kernel_rfl) (trivial) ?_
  refine vp_y hF rfl rfl rfl rfl (by decide) _ (fun x hx => y_move rfl rfl) (fun a hF => ?_)
  refine vp_y hF rfl rfl rfl rfl (by decide) _ (fun x hx => y_sliceArr rfl Tryd.underlying23 ow_size5 rfl (.none 0) (.none 32) (by omega) (by omega) slice_to) (fun a hF => ?_)
  refine vp_y hF rfl rfl rfl rfl (by decide) _ (fun x hx => y_sliceArr rfl Tryd.underlying23 ow_size5 rfl (.none 0) (.none 32) (by omega) (by omega) slice_to) (fun a hF => ?_)
  refine vp_l rfl rfl rfl (fun K hK => ws_bs2 hF rfl (by decide) rfl hA3.drew rfl rfl (tb_part2 _ _ _ _ _ _) (fun b5 w4 a hb5 hF hA4 => hK _ _ (fun _ => trivial) ?_))
  clear hK K
  have q4 : w.heap.size ≤ b4 := by have := hA2.size; omega
  have hnr : ∀ r ∈ [((b5, 59, [.slice (some ⟨b2, 0, none⟩) 32 32, .slice (some ⟨b3, 0, none⟩) 32 32]) : Row), (b4, 23, dc (List.replicate 32 0)), (b3, 23, dc Y), (b2, 23, dc X)], w.heap.size ≤ r.1 := cons_new (by have := hA3.drew.size; omega) (cons_new q4 (cons_new q3 (one_new hb2)))
  have hP : Pieces w4 (some ⟨b5, 0, none⟩) [(some ⟨b2, 0, none⟩, 32, X), (some ⟨b3, 0, none⟩, 32, Y)] := Pieces.row hA4 (k := 0) (by rw [List.map_cons, List.map_cons, hX, hY]; rfl) (fun A' c' l' h => by
    rcases List.mem_cons.1 h with h | h
    · obtain ⟨rfl, rfl, rfl⟩ : A' = some ⟨b2, 0, none⟩ ∧ c' = 32 ∧ l' = X := by simpa using h
      exact ⟨by omega, tb_arr hX hA4 (k := 3) rfl⟩
    · obtain ⟨rfl, rfl, rfl⟩ : A' = some ⟨b3, 0, none⟩ ∧ c' = 32 ∧ l' = Y := by simpa using h
      exact ⟨by omega, tb_arr hY hA4 (k := 2) rfl⟩)
  refine vp_l rfl rfl rfl (fun K hK => ws_call hF rfl (by decide) cl51_tb rfl rfl ?_)
  with_reducible refine (of_all w4 width 4 4 rfl (some ⟨b5, 0, none⟩) _ 2 2 rfl hP (by rw [flat_two, List.length_append]; omega) (by decide) (hT.at_ hA4 (not0w hpos hnr))).mono ?_
  rintro e' w5 ⟨rfl, hc5⟩
  refine ⟨_, rfl, fun a hF => hK _ _ (fun h => absurd h (by decide)) ?_⟩; clear hK K
  have hA5 := hA4.then0 hc5
  clear hc5
  rw [flat_two] at hF
  refine vp_l rfl rfl rfl (fun K hK => ws_storeAll hF rfl rfl hA5 rfl rfl 1 rfl (tb_z (ofL_length _ _ _)) (dc_one _) tb_s (fun w6 hA6 => hK _ _ (fun h => absurd h (by decide)) ?_))
  clear hK K
  refine plan_end ?_
  refine hK2 _ _ ?_; clear  hK2 K2
  apply wp_ret
  refine vc_retc hF Tryd.results96 hA6 rfl 1 rfl (tb_row36 (ofL_length _ _ _)) ?_
  exact ⟨rfl, hA6.clear (cons_new (by have := hA3.drew.size; omega) (cons_new q4 (cons_new q3 (one_new hb2))))⟩

end Go.Proofs.YtpomngkcfbnjoaaDoor
