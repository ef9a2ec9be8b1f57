/- The walk of DigestSplits. -/
import Derived.Test.YtppmhlkonemebaaDoorLawMacs
import Derived.Test.YtppmhlkonemebaaDoorWrite0
import Derived.Test.YtppmhlkonemebaaDoorLists
import Derived.Test.YtppmhlkonemebaaDoorFork
namespace Go.Proofs.YtppmhlkonemebaaDoor
open Go.RowKit Go.Dk

/-- is the bit of this piece set? -/
def askQ (ask : Int) (i : Nat) : Bool := cmpB .eql (bits .and .i64 (ask.fdiv (2 ^ min (((i % 60 : Nat) : Int)).toNat IntKind.i64.bits)) 1) 1
theorem write_at (w : World) (hb : Nat) (m : List UInt8) (cs : List Value) (hH : HS m cs) (hrow : w.heap[hb]? = some (.cells cs.toArray 87 (0, 0))) (A : Option Addr) (l : List UInt8) (c n : Nat) (hn : n = l.length)
    (hr : Bts w A l) (hc : n ≤ c) (hoff : l ≠ [] → Off A hb) (hsz : m.length + l.length < 1152921504606846976) (hT : Tab w) (hb0 : hb ≠ 0) :
    Calls Tryd.prog 14 #[.pointer (some ⟨hb, 0, none⟩), .slice A n c] w (Wrote w hb (m ++ l)) := by
  subst hn
  exact write_all w hb m cs hH hrow A l c hr hc hoff hsz hT hb0
theorem flat_all (ps : List Part) : flat (ps.take ps.length) = flat ps := by rw [List.take_length]
theorem lists_at (w : World) (left : Int) (h1 : -9223372036854775808 ≤ left ∧ left ≤ 9223372036854775807) (pa : Option Addr) (ps : List Part) (c : Nat) (hnb : ps.length ≤ 9223372036854775807) (hP : Pieces w pa ps)
    (hl : ∀ A c l, (A, c, l) ∈ ps → l.length ≤ 9223372036854775807) :
    Calls Tryd.prog 23 #[.int .i64 left, .slice pa ps.length c] w fun e w' => e = .returned (.int .i64 (listsI left ps)) ∧ w = w' :=
  (lists_any w left h1 pa ps c ps.length rfl hnb hP hl).mono fun _ _ ⟨h1, h2⟩ => ⟨h1, h2.symm⟩
theorem sz24_sp : (Tryd.prog.info? 24).map (·.size) = some 1 := by kernel_rfl
theorem cl13_sp : CallsTo Tryd.prog 13 := ⟨_, Tryd.func13, by kernel_rfl, by kernel_rfl⟩
theorem cl14_sp : CallsTo Tryd.prog 14 := ⟨_, Tryd.func14, by kernel_rfl, by kernel_rfl⟩
theorem cl15_sp : CallsTo Tryd.prog 15 := ⟨_, Tryd.func15, by kernel_rfl, by kernel_rfl⟩
theorem cl16_sp : CallsTo Tryd.prog 16 := ⟨_, Tryd.func16, by kernel_rfl, by kernel_rfl⟩
theorem cl21_sp : CallsTo Tryd.prog 21 := ⟨_, Tryd.func21, by kernel_rfl, by kernel_rfl⟩
theorem cl23_sp : CallsTo Tryd.prog 23 := ⟨_, Tryd.func23, by kernel_rfl, by kernel_rfl⟩
theorem cl24_sp : CallsTo Tryd.prog 24 := ⟨_, Tryd.func24, by kernel_rfl, by kernel_rfl⟩

set_option maxRecDepth 100000 in
set_option maxHeartbeats 2000000 in
theorem law_splits (w : World) (pa : Option Addr) (ps : List Part) (c : Nat) (ask : Int) (hP : Pieces w pa ps) (hpl : ps.length ≤ 9223372036854775807) (hll : ∀ A c l, (A, c, l) ∈ ps → l.length ≤ 9223372036854775807) (hT : Tab w) :
    Calls Tryd.prog 5 #[.slice pa ps.length c, .int .i64 ask] w fun e w' => e = .returned (.bool true) ∧ At w [] w' := by
  have hA0 := At.refl w
  have hpos : 0 < w.heap.size := hT.lt
  refine vc_enter Tryd.func5 rfl Tryd.ntmps5 (Nat.le_of_ble_eq_true rfl) (fun a hF => ?_)
  apply wp_seq_k; intro K1 hK1
  refine wp_region_lit ?_
  refine vc_y hF rfl rfl (by decide) _ (y_assign rfl rfl) (fun a hF => ?_)
  refine vc_nil ?_
  refine hK1 _ _ ?_; clear  hK1 K1
  apply wp_seq_k; intro K2 hK2
  apply wp_seq_k; intro K3 hK3
  refine wp_region_lit ?_
  refine vc_y hF rfl rfl (by decide) _ (y_move rfl rfl) (fun a hF => ?_)
  refine vc_op rfl (fun K hK => ws_call hF rfl (by decide) cl23_sp rfl rfl ?_)
  with_reducible refine (lists_at w 2147483647 (by decide) pa ps c hpl hP hll).mono ?_
  rintro e' w0 ⟨rfl, rfl⟩
  refine ⟨_, rfl, fun a hF => hK _ _ ?_⟩; clear hK K
  refine vc_y hF rfl rfl (by decide) _ (y_cmp rfl rfl rfl rfl rfl) (fun a hF => ?_)
  refine vc_nil ?_
  refine hK3 _ _ ?_; clear  hK3 K3
  by_cases hneg : listsI 2147483647 ps < 0
  · refine vc_trueB hF rfl (lss_t hneg) ?_
    apply wp_seq_k; intro K4 hK4
    refine wp_region_lit ?_
    refine vc_y hF rfl rfl (by decide) _ (y_assign rfl rfl) (fun a hF => ?_)
    refine vc_nil ?_
    refine hK4 _ _ ?_; clear  hK4 K4
    apply wp_ret
    simp only [Exit.then]
    refine vc_ret1 hF Tryd.results5 rfl ?_
    exact ⟨rfl, hA0⟩
  · have hsum := listsI_le 2147483647 ps (by omega)
    have hfl : ∀ j, (flat (ps.take j)).length ≤ (flat ps).length := fun j => by
      have h2 : flat ps = flat (ps.take j) ++ flat (ps.drop j) := by unfold flat; rw [← List.flatMap_append, List.take_append_drop]
      rw [h2, List.length_append]; omega
    obtain ⟨hP1, hP2⟩ := hP
    refine vc_falseB hF rfl (lss_f (by omega)) ?_
    apply wp_skip
    refine hK2 _ _ ?_; clear  hK2 K2
    apply wp_seq_k; intro K5 hK5
    refine wp_region_lit ?_
    refine vc_op rfl (fun K hK => ws_call hF rfl (by decide) cl13_sp rfl rfl ?_)
    with_reducible refine (new_any w).mono ?_
    rintro e' w1 ⟨hb, cs0, rfl, hhb, hH0, hA1⟩
    refine ⟨_, rfl, fun a hF => hK _ _ ?_⟩; clear hK K
    refine vc_y hF rfl rfl (by decide) _ (y_assign rfl rfl) (fun a hF => ?_)
    refine vc_nil ?_
    refine hK5 _ _ ?_; clear  hK5 K5
    apply wp_seq_k; intro K6 hK6
    apply wp_seq_k; intro K7 hK7
    refine wp_region_lit ?_
    refine vc_y hF rfl rfl (by decide) _ (y_move rfl rfl) (fun a hF => ?_)
    refine vc_y hF rfl rfl (by decide) _ (y_eqNil rfl (by kernel_rfl) rfl rfl) (fun a hF => ?_)
    refine vc_y hF rfl rfl (by decide) _ (y_move rfl rfl) (fun a hF => ?_)
    refine vc_opg hF rfl rfl rfl rfl (fun K hK => ws_bytes hF rfl (by decide) rfl hA1 Tryd.underlying24 bk_byte5 lit0 len0 (by decide) (by decide) (by kernel_rfl) (fun gl a _ _ hF => hK _ _ ?_))
    clear hK K
    refine vc_opg hF rfl rfl rfl rfl (fun K hK => ws_mark (l := lit0) hF rfl (by decide) rfl hA1 Tryd.underlying24 Tryd.underlying5 rfl (fun gm w3 a hgm hF hA3 hB3 hI3 => hK _ _ ?_))
    clear hK K
    refine vc_opg hF rfl rfl rfl rfl (fun K hK => ws_call hF rfl (by decide) cl21_sp rfl rfl ?_)
    with_reducible refine (digest_any w3 (some ⟨gm, 0, none⟩) lit0 28 28 len0 (Nat.le_refl _) hB3 (in_some hI3) lt0 (hT.at_ hA3 (not0w hpos (one_new hhb)))).mono ?_
    rintro e' w4 ⟨rfl, hc4⟩
    refine ⟨_, rfl, fun a hF => hK _ _ ?_⟩; clear hK K
    have hA4 := hA3.then0 hc4
    clear hc4
    rw [hx0_eq] at hF
    refine vc_opg hF rfl rfl rfl rfl (fun K hK => ws_call hF rfl (by decide) cl16_sp rfl rfl ?_)
    with_reducible refine (written_any w4 hx0 rfl).mono ?_
    rintro e' w5 ⟨rfl, hc5⟩
    refine ⟨_, rfl, fun a hF => hK _ _ ?_⟩; clear hK K
    have hA5 : At w [(hb, 87, cs0)] w5 := hA4.then0 hc5
    clear hc5
    refine vc_yg hF rfl rfl rfl rfl rfl (by decide) _ (y_neB rfl Tryd.underlying36 Tryd.underlying5 bk_size5 (by kernel_rfl) rfl rfl (writtenL_length _) (writtenL_length _) (ndec_f rfl)) (fun a hF => ?_)
    refine vc_y hF rfl rfl (by decide) _ (y_pick rfl rfl rfl) (fun a hF => ?_)
    refine vc_nil ?_
    refine hK7 _ _ ?_; clear  hK7 K7
    refine vc_false hF rfl ?_
    apply wp_skip
    refine hK6 _ _ ?_; clear  hK6 K6
    apply wp_seq_k; intro K8 hK8
    refine wp_region_lit ?_
    refine vc_y hF rfl rfl (by decide) _ (y_assign rfl rfl) (fun a hF => ?_)
    refine vc_nil ?_
    refine hK8 _ _ ?_; clear  hK8 K8
    apply wp_seq_k; intro K9 hK9
    apply wp_seq_k; intro K10 hK10
    refine wp_region_lit ?_
    refine vc_y hF rfl rfl (by decide) _ (y_assign rfl rfl) (fun a hF => ?_)
    refine vc_nil ?_
    refine hK10 _ _ ?_; clear  hK10 K10
    apply wp_block
    refine vc_loop (G := Nat) (fun i a x => i ≤ ps.length ∧ ∃ (vo : Value) (X : List Row) (cs : List Value), Fr 85 [(7, .int .i64 (i : Int)), (0, .slice pa ps.length c), (1, .int .i64 ask), (5, .pointer (some ⟨hb, 0, none⟩)), (6, vo)] a ∧ Own w 5 1 X vo (flat (ps.take i)).length (dc (flat (ps.take i))) ∧ HS (flat (ps.take i)) cs ∧ At w ([(hb, 87, cs)] ++ X) x) (fun i => ps.length - i) 0 ⟨Nat.zero_le _, _, [], cs0, hF.keep [7, 0, 1, 5, 6] rfl, Own.nil w 5 1, hH0, by rw [List.append_nil]; exact hA5⟩ ?_
    clear hF
    rintro i a wr ⟨hi, vo, X, cs, hF, hO, hH, hAr⟩
    by_cases hlt : i < ps.length
    · have hne : ps ≠ [] := fun e => by rw [e] at hlt; exact absurd hlt (Nat.not_lt_zero _)
      obtain ⟨b, o, rfl, hbl, hcells⟩ := hP1 hne
      obtain ⟨⟨A, cA, l⟩, hp⟩ : ∃ q, ps[i]? = some q := ⟨_, List.getElem?_eq_getElem hlt⟩
      have hcell := hcells i A cA l hp
      obtain ⟨hlc, hBl⟩ := hP2 A cA l (List.mem_of_getElem? hp)
      have hft := flat_take hp
      have hfle := flat_le hp
      have hfi := hfl i
      have hfn : (flat (ps.take (i + 1))).length = (flat (ps.take i)).length + l.length := by rw [hft, List.length_append]
      have hnr : ∀ r ∈ [((hb, 87, cs) : Row)] ++ X, w.heap.size ≤ r.1 := all_new (one_new hhb) hO.new
      have hni : ∀ {cs : List Value} {X : List Row}, (∀ r ∈ X, w.heap.size ≤ (r : Row).1) → b ∉ ([((hb, 87, cs) : Row)] ++ X).map (·.1) := fun hX hm => by
        obtain ⟨r, hr, he⟩ := List.mem_map.1 hm
        have := all_new (one_new hhb) hX r hr
        omega
      obtain ⟨M, hM⟩ : ∃ M, M = flat (ps.take (i + 1)) := ⟨_, rfl⟩
      rw [← hM] at hft hfn
      have hMl : M.length ≤ 2147483647 := by omega
      apply wp_seq_k; intro K11 hK11
      apply wp_seq_k; intro K12 hK12
      refine wp_region_lit ?_
      refine vc_y hF rfl rfl (by decide) _ (y_move rfl rfl) (fun a hF => ?_)
      refine vc_y hF rfl rfl (by decide) _ (y_move rfl rfl) (fun a hF => ?_)
      refine vc_y hF rfl rfl (by decide) _ (y_lenSl rfl Tryd.underlying29 rfl rfl) (fun a hF => ?_)
      refine vc_y hF rfl rfl (by decide) _ (y_cmp rfl rfl rfl rfl rfl) (fun a hF => ?_)
      refine vc_nil ?_
      refine hK12 _ _ ?_; clear  hK12 K12
      refine vc_trueB hF rfl (lss_t (by omega)) ?_
      apply wp_skip
      refine hK11 _ _ ?_; clear  hK11 K11
      apply wp_seq_k; intro K13 hK13
      apply wp_block
      apply wp_seq_k; intro K14 hK14
      refine wp_region_lit ?_
      refine vc_y hF rfl rfl (by decide) _ (y_move rfl rfl) (fun a hF => ?_)
      refine vc_y hF rfl rfl (by decide) _ (y_move rfl rfl) (fun a hF => ?_)
      refine vc_y hF rfl rfl (by decide) _ (y_move rfl rfl) (fun a hF => ?_)
      refine vc_y hF rfl rfl (by decide) _ (y_ixSl rfl Tryd.underlying29 sz24_sp rfl rfl i rfl hlt (ad2 _ _ _)) (fun a hF => ?_)
      refine vc_y hF rfl rfl (by decide) _ (y_load1 rfl rfl ((hAr.old hbl (hni hO.new) _ _).trans hcell) no24) (fun a hF => ?_)
      refine vc_op rfl (fun K hK => ws_call hF rfl (by decide) cl14_sp rfl rfl ?_)
      with_reducible refine (write_at wr hb _ cs hH (hAr.row (k := 0) rfl) A l cA l.length rfl (hBl.fresh hAr hnr) hlc (bts_off hBl hhb) (by omega) (hT.at_ hAr (not0w hpos hnr)) (by omega)).mono ?_
      rintro e' w6 ⟨rfl, cs1, hH1, hc6⟩
      refine ⟨_, rfl, fun a hF => hK _ _ ?_⟩; clear hK K
      have hA6 : At w ([(hb, 87, cs1)] ++ X) w6 := hAr.then1 (k := 0) rfl hc6
      clear hc6
      have hnr6 : ∀ r ∈ [(hb, 87, cs1)] ++ X, w.heap.size ≤ (r : Row).1 := all_new (one_new hhb) hO.new
      rw [← hft] at hH1
      refine vc_nil ?_
      refine hK14 _ _ ?_; clear  hK14 K14
      apply wp_seq_k; intro K15 hK15
      refine wp_region_lit ?_
      refine vc_y hF rfl rfl (by decide) _ (y_move rfl rfl) (fun a hF => ?_)
      refine vc_y hF rfl rfl (by decide) _ (y_move rfl rfl) (fun a hF => ?_)
      refine vc_y hF rfl rfl (by decide) _ (y_move rfl rfl) (fun a hF => ?_)
      refine vc_y hF rfl rfl (by decide) _ (y_ixSl rfl Tryd.underlying29 sz24_sp rfl rfl i rfl hlt (ad2 _ _ _)) (fun a hF => ?_)
      refine vc_y hF rfl rfl (by decide) _ (y_load1 rfl rfl ((hA6.old hbl (hni hO.new) _ _).trans hcell) no24) (fun a hF => ?_)
      refine vc_op rfl (fun K hK => ws_own hF rfl (by decide) rfl ([(hb, 87, cs1)]) (X := X) hA6 hO Tryd.underlying24 elem5 rfl rfl (Bts.src Tryd.underlying24 (hBl.fresh hA6 hnr6)) (by omega) (by decide) (fun v1 X1 w7 a hO1 hF hA7 => hK _ _ ?_))
      clear hK K
      rw [← dc_append, ← hft, ← hfn] at hO1
      have hO1n := hO1.new
      obtain ⟨_, A1, c1, rfl, hc1, hB1⟩ := own_parts hO1
      have hnr7 : ∀ r ∈ [(hb, 87, cs1)] ++ X1, w.heap.size ≤ (r : Row).1 := all_new (one_new hhb) hO1n
      refine vc_y hF rfl rfl (by decide) _ (y_assign rfl rfl) (fun a hF => ?_)
      refine vc_nil ?_
      refine hK15 _ _ ?_; clear  hK15 K15
      apply wp_seq_k; intro K16 hK16
      by_cases hq : askQ ask i = true
      · by_cases h200 : i < 200
        · refine wp_region_lit ?_
          refine vc_y hF rfl rfl (by decide) _ (y_move rfl rfl) (fun a hF => ?_)
          refine vc_y hF rfl rfl (by decide) _ (y_move rfl rfl) (fun a hF => ?_)
          refine vc_y hF rfl rfl (by decide) _ (y_rem rfl rfl rfl (by decide) (show ((i : Int).tmod 60) = ((i % 60 : Nat) : Int) by rw [Int.tmod_eq_emod_of_nonneg (by omega)]; omega)) (fun a hF => ?_)
          refine vc_y hF rfl rfl (by decide) _ (y_conv rfl Tryd.underlying3 Tryd.underlying47 rfl (show IntKind.u64.wrap ((i % 60 : Nat) : Int) = ((i % 60 : Nat) : Int) by rw [IntKind.wrap_u64]; omega)) (fun a hF => ?_)
          refine vc_y hF rfl rfl (by decide) _ (y_shr rfl rfl rfl (by omega) rfl) (fun a hF => ?_)
          refine vc_y hF rfl rfl (by decide) _ (y_and rfl rfl rfl rfl) (fun a hF => ?_)
          refine vc_y hF rfl rfl (by decide) _ (y_cmp rfl rfl rfl rfl hq) (fun a hF => ?_)
          refine vc_y hF rfl rfl (by decide) _ (y_move rfl rfl) (fun a hF => ?_)
          refine vc_yg hF rfl rfl rfl rfl rfl (by decide) _ (y_move rfl rfl) (fun a hF => ?_)
          refine vc_yg hF rfl rfl rfl rfl rfl (by decide) _ (y_cmp rfl rfl rfl rfl (lss_t (by omega))) (fun a hF => ?_)
          refine vc_y hF rfl rfl (by decide) _ (y_pick rfl rfl rfl) (fun a hF => ?_)
          refine vc_nil ?_
          refine hK16 _ _ ?_; clear  hK16 K16
          refine vc_true hF rfl ?_
          apply wp_seq_k; intro K17 hK17
          refine wp_region_lit ?_
          refine vc_y hF rfl rfl (by decide) _ (y_move rfl rfl) (fun a hF => ?_)
          refine vc_op rfl (fun K hK => ws_call hF rfl (by decide) cl24_sp rfl rfl ?_)
          with_reducible refine (fork_any w7 hb M cs1 hH1 (hA7.row (k := 0) rfl)).mono ?_
          rintro e' w8 ⟨g8, cs8, rfl, hg8, hH8, hc8⟩
          refine ⟨_, rfl, fun a hF => hK _ _ ?_⟩; clear hK K
          have q8 : w.heap.size ≤ g8 := by have := hA7.size; omega
          have l8 : hb < g8 := by have := hA7.lt (k := 0) rfl; omega
          have hA8 : At w ([(g8, 87, cs8), (hb, 87, cs1)] ++ X1) w8 := hA7.thenNew hc8 (one_new hg8)
          clear hc8
          refine vc_y hF rfl rfl (by decide) _ (y_assign rfl rfl) (fun a hF => ?_)
          refine vc_nil ?_
          refine hK17 _ _ ?_; clear  hK17 K17
          apply wp_seq_k; intro K18 hK18
          apply wp_seq_k; intro K19 hK19
          refine wp_region_lit ?_
          refine vc_y hF rfl rfl (by decide) _ (y_move rfl rfl) (fun a hF => ?_)
          refine vc_y hF rfl rfl (by decide) _ (y_eqNil rfl (by kernel_rfl) rfl rfl) (fun a hF => ?_)
          refine vc_y hF rfl rfl (by decide) _ (y_move rfl rfl) (fun a hF => ?_)
          refine vc_yg hF rfl rfl rfl rfl rfl (by decide) _ (y_move rfl rfl) (fun a hF => ?_)
          refine vc_opg hF rfl rfl rfl rfl (fun K hK => ws_call hF rfl (by decide) cl15_sp rfl rfl ?_)
          with_reducible refine (sum_any w8 hb M cs1 hH1 (hA8.row (k := 1) rfl) (by omega) (hT.at_ hA8 (not0w hpos (all_new (cons_new q8 (one_new hhb)) hO1n))) (by omega)).mono ?_
          rintro e' w9 ⟨rfl, hc9⟩
          refine ⟨_, rfl, fun a hF => hK _ _ ?_⟩; clear hK K
          have hA9 : At w ([(g8, 87, cs8), (hb, 87, cs1)] ++ X1) w9 := hA8.then0 hc9
          clear hc9
          refine vc_yg hF rfl rfl rfl rfl rfl (by decide) _ (y_move rfl rfl) (fun a hF => ?_)
          refine vc_opg hF rfl rfl rfl rfl (fun K hK => ws_call hF rfl (by decide) cl21_sp rfl rfl ?_)
          with_reducible refine (digest_all w9 A1 M c1 M.length rfl hc1 (hB1 [(g8, 87, cs8), (hb, 87, cs1)] w9 hA9) (by omega) (hT.at_ hA9 (not0w hpos (all_new (cons_new q8 (one_new hhb)) hO1n)))).mono ?_
          rintro e' w10 ⟨rfl, hc10⟩
          refine ⟨_, rfl, fun a hF => hK _ _ ?_⟩; clear hK K
          have hA10 : At w ([(g8, 87, cs8), (hb, 87, cs1)] ++ X1) w10 := hA9.then0 hc10
          clear hc10
          refine vc_yg hF rfl rfl rfl rfl rfl (by decide) _ (y_neB rfl Tryd.underlying36 Tryd.underlying5 bk_size5 (by kernel_rfl) rfl rfl (sha_length _) (sha_length _) (ndec_f rfl)) (fun a hF => ?_)
          refine vc_y hF rfl rfl (by decide) _ (y_pick rfl rfl rfl) (fun a hF => ?_)
          refine vc_nil ?_
          refine hK19 _ _ ?_; clear  hK19 K19
          refine vc_false hF rfl ?_
          apply wp_skip
          refine hK18 _ _ ?_; clear  hK18 K18
          apply wp_seq_k; intro K20 hK20
          refine wp_region_lit ?_
          refine vc_y hF rfl rfl (by decide) _ (y_move rfl rfl) (fun a hF => ?_)
          refine vc_op rfl (fun K hK => ws_byte1 hF rfl (by decide) rfl hA10 7 rfl build_byte (fun g11 w11 a hg11 hF hA11 => hK _ _ ?_))
          clear hK K
          replace hA11 : At w ([(g11, 5, dc [7]), (g8, 87, cs8), (hb, 87, cs1)] ++ X1) w11 := hA11
          have q11 : w.heap.size ≤ g11 := by have := hA10.size; omega
          have l11 : g8 < g11 := by have := hA10.lt (k := 0) rfl; omega
          refine vc_op rfl (fun K hK => ws_call hF rfl (by decide) cl14_sp rfl rfl ?_)
          with_reducible refine (write_at w11 g8 M cs8 hH8 (hA11.row (k := 1) rfl) (some ⟨g11, 0, none⟩) [7] 1 1 rfl (Bts.row hA11 (k := 0) rfl rfl) (Nat.le_refl _) (fun _ => off_some (by omega)) (by simp; omega) (hT.at_ hA11 (not0w hpos (all_new (cons_new q11 (cons_new q8 (one_new hhb))) hO1n))) (by omega)).mono ?_
          rintro e' w12 ⟨rfl, cs12, hH12, hc12⟩
          refine ⟨_, rfl, fun a hF => hK _ _ ?_⟩; clear hK K
          have hA12 : At w ([(g11, 5, dc [7]), (g8, 87, cs12), (hb, 87, cs1)] ++ X1) w12 := hA11.then1 (k := 1) rfl hc12
          clear hc12
          refine vc_nil ?_
          refine hK20 _ _ ?_; clear  hK20 K20
          apply wp_seq_k; intro K21 hK21
          refine wp_region_lit ?_
          refine vc_y hF rfl rfl (by decide) _ (y_move rfl rfl) (fun a hF => ?_)
          refine vc_op rfl (fun K hK => ws_call hF rfl (by decide) cl15_sp rfl rfl ?_)
          with_reducible refine (sum_any w12 g8 (M ++ [7]) cs12 hH12 (hA12.row (k := 1) rfl) (by rw [List.length_append]; simp only [List.length_cons, List.length_nil]; omega) (hT.at_ hA12 (not0w hpos (all_new (cons_new q11 (cons_new q8 (one_new hhb))) hO1n))) (by omega)).mono ?_
          rintro e' w13 ⟨rfl, hc13⟩
          refine ⟨_, rfl, fun a hF => hK _ _ ?_⟩; clear hK K
          have hA13 : At w ([(g11, 5, dc [7]), (g8, 87, cs12), (hb, 87, cs1)] ++ X1) w13 := hA12.then0 hc13
          clear hc13
          refine vc_y hF rfl rfl (by decide) _ (y_move rfl rfl) (fun a hF => ?_)
          refine vc_op rfl (fun K hK => ws_own hF rfl (by decide) rfl ([(g11, 5, dc [7]), (g8, 87, cs12)] ++ [(hb, 87, cs1)] ++ X1) (X := []) (by rw [List.append_nil]; exact hA13) (Own.nil w 5 1) Tryd.underlying24 elem5 rfl rfl (Bts.src Tryd.underlying24 (hB1 [(g11, 5, dc [7]), (g8, 87, cs12), (hb, 87, cs1)] w13 hA13)) (by rw [Nat.zero_add]; omega) (by decide) (fun v14 X14 w14 a hO14 hF hA14 => hK _ _ ?_))
          clear hK K
          refine vc_op rfl (fun K hK => ws_byte1 hF rfl (by decide) rfl hA14 7 rfl build_byte (fun g15 w15 a hg15 hF hA15 => hK _ _ ?_))
          clear hK K
          have q15 : w.heap.size ≤ g15 := by have := hA14.size; omega
          refine vc_op rfl (fun K hK => ws_own hF rfl (by decide) rfl ([(g15, 5, dc [7]), (g11, 5, dc [7]), (g8, 87, cs12)] ++ [(hb, 87, cs1)] ++ X1) (X := X14) hA15 hO14 Tryd.underlying24 elem5 rfl rfl (Bts.src (l := [7]) Tryd.underlying24 (Bts.row hA15 (k := 0) rfl rfl)) (by simp; omega) (by decide) (fun v16 X16 w16 a hO16 hF hA16 => hK _ _ ?_))
          clear hK K
          rw [List.nil_append, ← dc_append] at hO16
          have hO16n := hO16.new
          obtain ⟨_, A16, c16, rfl, hc16, hB16⟩ := own_parts hO16
          have hnr16 : ∀ r ∈ [((g15, 5, dc [7]) : Row), (g11, 5, dc [7]), (g8, 87, cs12)] ++ [(hb, 87, cs1)] ++ X1 ++ X16, w.heap.size ≤ r.1 := all_new (all_new (all_new (cons_new q15 (cons_new q11 (one_new q8))) (one_new hhb)) hO1n) hO16n
          refine vc_op rfl (fun K hK => ws_call hF rfl (by decide) cl21_sp rfl rfl ?_)
          with_reducible refine (digest_all w16 A16 (M ++ [7]) c16 _ rfl hc16 (hB16 _ w16 hA16) (by rw [List.length_append]; simp only [List.length_cons, List.length_nil]; omega) (hT.at_ hA16 (not0w hpos hnr16))).mono ?_
          rintro e' w17 ⟨rfl, hc17⟩
          refine ⟨_, rfl, fun a hF => hK _ _ ?_⟩; clear hK K
          have hA17 : At w ([(g15, 5, dc [7]), (g11, 5, dc [7]), (g8, 87, cs12)] ++ [(hb, 87, cs1)] ++ X1 ++ X16) w17 := hA16.then0 hc17
          clear hc17
          refine vc_y hF rfl rfl (by decide) _ (y_neB rfl Tryd.underlying36 Tryd.underlying5 bk_size5 (by kernel_rfl) rfl rfl (sha_length _) (sha_length _) (ndec_f rfl)) (fun a hF => ?_)
          refine vc_nil ?_
          refine hK21 _ _ ?_; clear  hK21 K21
          refine vc_false hF rfl ?_
          apply wp_skip
          refine hK13 _ _ ?_; clear  hK13 K13
          refine wp_region_lit ?_
          refine vc_y hF rfl rfl (by decide) _ (y_move rfl rfl) (fun a hF => ?_)
          refine vc_y hF rfl rfl (by decide) _ (y_add rfl rfl rfl (IntWalk.i64_in _ (by omega))) (fun a hF => ?_)
          refine vc_y hF rfl rfl (by decide) _ (y_assign rfl rfl) (fun a hF => ?_)
          refine vc_nil ?_
          exact ⟨i + 1, by omega, by omega, _, _, _, hF.keep [7, 0, 1, 5, 6] rfl, by rw [← hM]; exact hO1, by rw [← hM]; exact hH1, hA17.dropNew (.cons _ (.cons _ (.cons _ (.cons_cons _ (List.sublist_append_left X1 X16))))) hnr16⟩
        · refine wp_region_lit ?_
          refine vc_y hF rfl rfl (by decide) _ (y_move rfl rfl) (fun a hF => ?_)
          refine vc_y hF rfl rfl (by decide) _ (y_move rfl rfl) (fun a hF => ?_)
          refine vc_y hF rfl rfl (by decide) _ (y_rem rfl rfl rfl (by decide) (show ((i : Int).tmod 60) = ((i % 60 : Nat) : Int) by rw [Int.tmod_eq_emod_of_nonneg (by omega)]; omega)) (fun a hF => ?_)
          refine vc_y hF rfl rfl (by decide) _ (y_conv rfl Tryd.underlying3 Tryd.underlying47 rfl (show IntKind.u64.wrap ((i % 60 : Nat) : Int) = ((i % 60 : Nat) : Int) by rw [IntKind.wrap_u64]; omega)) (fun a hF => ?_)
          refine vc_y hF rfl rfl (by decide) _ (y_shr rfl rfl rfl (by omega) rfl) (fun a hF => ?_)
          refine vc_y hF rfl rfl (by decide) _ (y_and rfl rfl rfl rfl) (fun a hF => ?_)
          refine vc_y hF rfl rfl (by decide) _ (y_cmp rfl rfl rfl rfl hq) (fun a hF => ?_)
          refine vc_y hF rfl rfl (by decide) _ (y_move rfl rfl) (fun a hF => ?_)
          refine vc_yg hF rfl rfl rfl rfl rfl (by decide) _ (y_move rfl rfl) (fun a hF => ?_)
          refine vc_yg hF rfl rfl rfl rfl rfl (by decide) _ (y_cmp rfl rfl rfl rfl (lss_f (by omega))) (fun a hF => ?_)
          refine vc_y hF rfl rfl (by decide) _ (y_pick rfl rfl rfl) (fun a hF => ?_)
          refine vc_nil ?_
          refine hK16 _ _ ?_; clear  hK16 K16
          refine vc_false hF rfl ?_
          apply wp_skip
          refine hK13 _ _ ?_; clear  hK13 K13
          refine wp_region_lit ?_
          refine vc_y hF rfl rfl (by decide) _ (y_move rfl rfl) (fun a hF => ?_)
          refine vc_y hF rfl rfl (by decide) _ (y_add rfl rfl rfl (IntWalk.i64_in _ (by omega))) (fun a hF => ?_)
          refine vc_y hF rfl rfl (by decide) _ (y_assign rfl rfl) (fun a hF => ?_)
          refine vc_nil ?_
          exact ⟨i + 1, by omega, by omega, _, _, _, hF.keep [7, 0, 1, 5, 6] rfl, by rw [← hM]; exact hO1, by rw [← hM]; exact hH1, hA7⟩
      · have hq2 : askQ ask i = false := by simpa using hq
        refine wp_region_lit ?_
        refine vc_y hF rfl rfl (by decide) _ (y_move rfl rfl) (fun a hF => ?_)
        refine vc_y hF rfl rfl (by decide) _ (y_move rfl rfl) (fun a hF => ?_)
        refine vc_y hF rfl rfl (by decide) _ (y_rem rfl rfl rfl (by decide) (show ((i : Int).tmod 60) = ((i % 60 : Nat) : Int) by rw [Int.tmod_eq_emod_of_nonneg (by omega)]; omega)) (fun a hF => ?_)
        refine vc_y hF rfl rfl (by decide) _ (y_conv rfl Tryd.underlying3 Tryd.underlying47 rfl (show IntKind.u64.wrap ((i % 60 : Nat) : Int) = ((i % 60 : Nat) : Int) by rw [IntKind.wrap_u64]; omega)) (fun a hF => ?_)
        refine vc_y hF rfl rfl (by decide) _ (y_shr rfl rfl rfl (by omega) rfl) (fun a hF => ?_)
        refine vc_y hF rfl rfl (by decide) _ (y_and rfl rfl rfl rfl) (fun a hF => ?_)
        refine vc_y hF rfl rfl (by decide) _ (y_cmp rfl rfl rfl rfl hq2) (fun a hF => ?_)
        refine vc_y hF rfl rfl (by decide) _ (y_move rfl rfl) (fun a hF => ?_)
        refine vc_skip hF rfl rfl rfl rfl rfl rfl (by decide) (fun a hF => ?_)
        refine vc_skip hF rfl rfl rfl rfl rfl rfl (by decide) (fun a hF => ?_)
        refine vc_y hF rfl rfl (by decide) _ (y_pick rfl rfl rfl) (fun a hF => ?_)
        refine vc_nil ?_
        refine hK16 _ _ ?_; clear  hK16 K16
        refine vc_false hF rfl ?_
        apply wp_skip
        refine hK13 _ _ ?_; clear  hK13 K13
        refine wp_region_lit ?_
        refine vc_y hF rfl rfl (by decide) _ (y_move rfl rfl) (fun a hF => ?_)
        refine vc_y hF rfl rfl (by decide) _ (y_add rfl rfl rfl (IntWalk.i64_in _ (by omega))) (fun a hF => ?_)
        refine vc_y hF rfl rfl (by decide) _ (y_assign rfl rfl) (fun a hF => ?_)
        refine vc_nil ?_
        exact ⟨i + 1, by omega, by omega, _, _, _, hF.keep [7, 0, 1, 5, 6] rfl, by rw [← hM]; exact hO1, by rw [← hM]; exact hH1, hA7⟩
    · obtain rfl : i = ps.length := by omega
      have hfi := hfl ps.length
      have hnr : ∀ r ∈ [((hb, 87, cs) : Row)] ++ X, w.heap.size ≤ r.1 := all_new (one_new hhb) hO.new
      obtain ⟨_, Ao, co, rfl, hco, hBo⟩ := own_parts hO
      apply wp_seq_k; intro K22 hK22
      apply wp_seq_k; intro K23 hK23
      refine wp_region_lit ?_
      refine vc_y hF rfl rfl (by decide) _ (y_move rfl rfl) (fun a hF => ?_)
      refine vc_y hF rfl rfl (by decide) _ (y_move rfl rfl) (fun a hF => ?_)
      refine vc_y hF rfl rfl (by decide) _ (y_lenSl rfl Tryd.underlying29 rfl rfl) (fun a hF => ?_)
      refine vc_y hF rfl rfl (by decide) _ (y_cmp rfl rfl rfl rfl rfl) (fun a hF => ?_)
      refine vc_nil ?_
      refine hK23 _ _ ?_; clear  hK23 K23
      refine vc_falseB hF rfl (lss_f (by omega)) ?_
      apply wp_exit
      refine hK9 _ _ ?_; clear hK22 K22 hK9 K9
      apply wp_seq_k; intro K24 hK24
      refine wp_region_lit ?_
      refine vc_y hF rfl rfl (by decide) _ (y_move rfl rfl) (fun a hF => ?_)
      refine vc_op rfl (fun K hK => ws_call hF rfl (by decide) cl15_sp rfl rfl ?_)
      with_reducible refine (sum_any wr hb _ cs hH (hAr.row (k := 0) rfl) (by omega) (hT.at_ hAr (not0w hpos hnr)) (by omega)).mono ?_
      rintro e' w18 ⟨rfl, hc18⟩
      refine ⟨_, rfl, fun a hF => hK _ _ ?_⟩; clear hK K
      have hA18 : At w ([(hb, 87, cs)] ++ X) w18 := hAr.then0 hc18
      clear hc18
      refine vc_y hF rfl rfl (by decide) _ (y_move rfl rfl) (fun a hF => ?_)
      refine vc_op rfl (fun K hK => ws_call hF rfl (by decide) cl21_sp rfl rfl ?_)
      with_reducible refine (digest_all w18 Ao _ co _ rfl hco (hBo [(hb, 87, cs)] w18 hA18) (by omega) (hT.at_ hA18 (not0w hpos hnr))).mono ?_
      rintro e' w19 ⟨rfl, hc19⟩
      refine ⟨_, rfl, fun a hF => hK _ _ ?_⟩; clear hK K
      have hA19 : At w ([(hb, 87, cs)] ++ X) w19 := hA18.then0 hc19
      clear hc19
      refine vc_y hF rfl rfl (by decide) _ (y_eqB rfl Tryd.underlying36 Tryd.underlying5 bk_size5 (by kernel_rfl) rfl rfl (sha_length _) (sha_length _) (dec_t rfl)) (fun a hF => ?_)
      refine vc_y hF rfl rfl (by decide) _ (y_move rfl rfl) (fun a hF => ?_)
      refine vc_yg hF rfl rfl rfl rfl rfl (by decide) _ (y_move rfl rfl) (fun a hF => ?_)
      refine vc_opg hF rfl rfl rfl rfl (fun K hK => ws_call hF rfl (by decide) cl15_sp rfl rfl ?_)
      with_reducible refine (sum_any w19 hb _ cs hH (hA19.row (k := 0) rfl) (by omega) (hT.at_ hA19 (not0w hpos hnr)) (by omega)).mono ?_
      rintro e' w20 ⟨rfl, hc20⟩
      refine ⟨_, rfl, fun a hF => hK _ _ ?_⟩; clear hK K
      have hA20 : At w ([(hb, 87, cs)] ++ X) w20 := hA19.then0 hc20
      clear hc20
      refine vc_yg hF rfl rfl rfl rfl rfl (by decide) _ (y_move rfl rfl) (fun a hF => ?_)
      refine vc_opg hF rfl rfl rfl rfl (fun K hK => ws_call hF rfl (by decide) cl21_sp rfl rfl ?_)
      with_reducible refine (digest_all w20 Ao _ co _ rfl hco (hBo [(hb, 87, cs)] w20 hA20) (by omega) (hT.at_ hA20 (not0w hpos hnr))).mono ?_
      rintro e' w21 ⟨rfl, hc21⟩
      refine ⟨_, rfl, fun a hF => hK _ _ ?_⟩; clear hK K
      have hA21 : At w ([(hb, 87, cs)] ++ X) w21 := hA20.then0 hc21
      clear hc21
      refine vc_yg hF rfl rfl rfl rfl rfl (by decide) _ (y_eqB rfl Tryd.underlying36 Tryd.underlying5 bk_size5 (by kernel_rfl) rfl rfl (sha_length _) (sha_length _) (dec_t rfl)) (fun a hF => ?_)
      refine vc_y hF rfl rfl (by decide) _ (y_pick rfl rfl rfl) (fun a hF => ?_)
      refine vc_y hF rfl rfl (by decide) _ (y_assign rfl rfl) (fun a hF => ?_)
      refine vc_nil ?_
      refine hK24 _ _ ?_; clear  hK24 K24
      apply wp_ret
      refine vc_ret1 hF Tryd.results5 rfl ?_
      exact ⟨rfl, hA21.clear hnr⟩
end Go.Proofs.YtppmhlkonemebaaDoor
