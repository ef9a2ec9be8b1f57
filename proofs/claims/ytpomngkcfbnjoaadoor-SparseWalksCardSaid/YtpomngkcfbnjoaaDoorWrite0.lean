/- Write and Sum where nothing is known of an empty slice's address. -/
import Derived.Test.YtpomngkcfbnjoaaDoorTwo
import Derived.Test.YtpomngkcfbnjoaaDoorTree
namespace Go.Proofs.YtpomngkcfbnjoaaDoor
open Go.RowKit Go.Dk

theorem set_same {cs : List Value} {i : Nat} {v : Value} (h : cs[i]? = some v) : cs.set i v = cs := by
  apply List.ext_getElem?
  intro j
  rw [List.getElem?_set]
  split
  · rename_i e
    subst e
    have := (List.getElem?_eq_some_iff.1 h).1
    simp only [this, if_true]
    exact h.symm
  · rfl
theorem splice_none (cs : List Value) (off : Nat) : splice cs off (dc []) = cs := by simp [splice, dc]
theorem not0w {w : World} {L : List Row} (hpos : 0 < w.heap.size) (h : ∀ r ∈ L, w.heap.size ≤ (r : Row).1) : 0 ∉ L.map (fun r : Row => r.1) := fun hm => by
  obtain ⟨r, hr, he⟩ := List.mem_map.1 hm
  have := h r hr
  omega
theorem nr85_w0 : notRow Tryd.prog 129 = true := by kernel_rfl
theorem sz84_w0 : (Tryd.prog.info? 145).map (·.size) = some 64 := by kernel_rfl
theorem sz85_w0 : (Tryd.prog.info? 129).map (·.size) = some 1 := by kernel_rfl
set_option maxRecDepth 100000 in
set_option maxHeartbeats 1000000 in
theorem write_zero (w : World) (hb : Nat) (m : List UInt8) (cs : List Value) (hH : HS m cs) (hrow : w.heap[hb]? = some (.cells cs.toArray 147 (0, 0))) (A : Option Addr) (c : Nat) (hsz : m.length < 1152921504606846976) :
    Calls Tryd.prog 62 #[.pointer (some ⟨hb, 0, none⟩), .slice A 0 c] w (Wrote w hb m) := by
  have hA0 := At.start1 hrow
  obtain ⟨hl, hn72, _, _⟩ := hs_one hH
  obtain ⟨n, hn⟩ : ∃ n, n = m.length := ⟨_, rfl⟩
  rw [← hn] at hn72
  obtain ⟨h, hh⟩ : ∃ h, h = n % 64 := ⟨_, rfl⟩
  have hh64 : h < 64 := by omega
  refine vc_enter Tryd.func62 rfl Tryd.ntmps62 (Nat.le_of_ble_eq_true rfl) (fun a hF => ?_)
  apply wp_seq_k; intro K1 hK1
  apply wp_seq_k; intro K2 hK2
  refine wp_region_lit ?_
  refine vc_y hF rfl rfl (by decide) _ (y_move rfl rfl) (fun a hF => ?_)
  refine vc_y hF rfl rfl (by decide) _ (y_nilCheck rfl rfl) (fun a hF => ?_)
  refine vc_y hF rfl rfl (by decide) _ (y_field rfl Tryd.underlying147 rfl sz85_w0 (by decide) rfl (rfl : (⟨_, 0 + _, none⟩ : Addr) = ⟨_, 72, none⟩)) (fun a hF => ?_)
  refine vc_y hF rfl rfl (by decide) _ (y_loadAt rfl hA0 rfl 0 rfl hn72 nr85_w0) (fun a hF => ?_)
  refine vc_y hF rfl rfl (by decide) _ (y_rem rfl rfl rfl (by decide) (show ((n : Int).tmod 64) = (h : Int) by rw [Int.tmod_eq_emod_of_nonneg (by omega)]; omega)) (fun a hF => ?_)
  refine vc_y hF rfl rfl (by decide) _ (y_conv rfl Tryd.underlying129 Tryd.underlying3 rfl (IntWalk.i64_in _ (by omega))) (fun a hF => ?_)
  refine vc_y hF rfl rfl (by decide) _ (y_assign rfl rfl) (fun a hF => ?_)
  refine vc_nil ?_
  refine hK2 _ _ ?_; clear  hK2 K2
  apply wp_seq_k; intro K3 hK3
  refine wp_region_lit ?_
  refine vc_y hF rfl rfl (by decide) _ (y_move rfl rfl) (fun a hF => ?_)
  refine vc_y hF rfl rfl (by decide) _ (y_cmp rfl rfl rfl rfl rfl) (fun a hF => ?_)
  refine vc_nil ?_
  refine hK3 _ _ ?_; clear  hK3 K3
  by_cases h0 : 0 < h
  · refine vc_trueB hF rfl (gtr_t (by omega)) ?_
    apply wp_seq_k; intro K4 hK4
    refine wp_region_lit ?_
    refine vc_y hF rfl rfl (by decide) _ (y_move rfl rfl) (fun a hF => ?_)
    refine vc_y hF rfl rfl (by decide) _ (y_nilCheck rfl rfl) (fun a hF => ?_)
    refine vc_y hF rfl rfl (by decide) _ (y_field rfl Tryd.underlying147 rfl sz84_w0 (by decide) rfl (rfl : (⟨_, 0 + _, none⟩ : Addr) = ⟨_, 8, none⟩)) (fun a hF => ?_)
    refine vc_y hF rfl rfl (by decide) _ (y_move rfl rfl) (fun a hF => ?_)
    refine vc_y hF rfl rfl (by decide) _ (y_sliceArr rfl Tryd.underlying145 bk_size5 rfl (.some rfl rfl) (.none 64) (by omega) (by omega) rfl) (fun a hF => ?_)
    refine vc_y hF rfl rfl (by decide) _ (y_move rfl rfl) (fun a hF => ?_)
    refine vc_op rfl (fun K hK => ws_copy hF rfl (by decide) rfl hA0 Tryd.underlying59 bk_size5 rfl rfl [] (Nat.min_eq_left (Nat.zero_le _)).symm (Bts.nil _ _) 0 0 rfl (fun h => absurd h (by decide)) (by simp) (fun w1 a hF hA1 => hK _ _ ?_))
    clear hK K
    replace hA1 : At w [(hb, 147, cs)] w1 := by rw [← splice_none cs 0]; exact hA1
    replace hF : Fr 77 ((20, .int .i64 0) :: _) a := hF
    refine vc_y hF rfl rfl (by decide) _ (y_assign rfl rfl) (fun a hF => ?_)
    refine vc_nil ?_
    refine hK4 _ _ ?_; clear  hK4 K4
    apply wp_seq_k; intro K5 hK5
    refine wp_region_lit ?_
    refine vc_y hF rfl rfl (by decide) _ (y_move rfl rfl) (fun a hF => ?_)
    refine vc_y hF rfl rfl (by decide) _ (y_nilCheck rfl rfl) (fun a hF => ?_)
    refine vc_y hF rfl rfl (by decide) _ (y_field rfl Tryd.underlying147 rfl sz85_w0 (by decide) rfl (rfl : (⟨_, 0 + _, none⟩ : Addr) = ⟨_, 72, none⟩)) (fun a hF => ?_)
    refine vc_y hF rfl rfl (by decide) _ (y_loadAt rfl hA1 rfl 0 rfl hn72 nr85_w0) (fun a hF => ?_)
    refine vc_y hF rfl rfl (by decide) _ (y_move rfl rfl) (fun a hF => ?_)
    refine vc_y hF rfl rfl (by decide) _ (y_conv rfl Tryd.underlying3 Tryd.underlying129 rfl (show IntKind.u64.wrap (0 : Int) = 0 by decide)) (fun a hF => ?_)
    refine vc_y hF rfl rfl (by decide) _ (y_add rfl rfl rfl (show IntKind.u64.wrap ((n : Int) + 0) = (n : Int) by rw [IntKind.wrap_u64]; omega)) (fun a hF => ?_)
    refine vc_y hF rfl rfl (by decide) _ (y_nilCheck rfl rfl) (fun a hF => ?_)
    refine vc_y hF rfl rfl (by decide) _ (y_field rfl Tryd.underlying147 rfl sz85_w0 (by decide) rfl (rfl : (⟨_, 0 + _, none⟩ : Addr) = ⟨_, 72, none⟩)) (fun a hF => ?_)
    refine vc_op rfl (fun K hK => ws_store1 hF rfl rfl hA1 rfl rfl 0 rfl (by omega) rfl sz85_w0 (fun w2 hA2 => hK _ _ ?_))
    clear hK K
    replace hA2 : At w [(hb, 147, cs)] w2 := by rw [set_same hn72] at hA2; exact hA2
    refine vc_nil ?_
    refine hK5 _ _ ?_; clear  hK5 K5
    apply wp_seq_k; intro K6 hK6
    refine wp_region_lit ?_
    refine vc_y hF rfl rfl (by decide) _ (y_move rfl rfl) (fun a hF => ?_)
    refine vc_y hF rfl rfl (by decide) _ (y_move rfl rfl) (fun a hF => ?_)
    refine vc_y hF rfl rfl (by decide) _ (y_slice rfl Tryd.underlying59 bk_size5 rfl (.some rfl (rfl : (0 : Int) = ((0 : Nat) : Int))) (.none 0) (Nat.le_refl _) (Nat.zero_le _) (show Value.slice (sub A 0 c 1) (0 - 0) (c - 0) = .slice A 0 c by rw [sub_zero]; rfl)) (fun a hF => ?_)
    refine vc_y hF rfl rfl (by decide) _ (y_assign rfl rfl) (fun a hF => ?_)
    refine vc_nil ?_
    refine hK6 _ _ ?_; clear  hK6 K6
    apply wp_seq_k; intro K7 hK7
    apply wp_seq_k; intro K8 hK8
    refine wp_region_lit ?_
    refine vc_y hF rfl rfl (by decide) _ (y_move rfl rfl) (fun a hF => ?_)
    refine vc_y hF rfl rfl (by decide) _ (y_move rfl rfl) (fun a hF => ?_)
    refine vc_y hF rfl rfl (by decide) _ (y_add rfl rfl rfl (IntWalk.i64_in _ (by omega))) (fun a hF => ?_)
    refine vc_y hF rfl rfl (by decide) _ (y_cmp rfl rfl rfl rfl rfl) (fun a hF => ?_)
    refine vc_nil ?_
    refine hK8 _ _ ?_; clear  hK8 K8
    refine vc_trueB hF rfl (lss_t (by omega)) ?_
    apply wp_ret
    refine vc_ret0 hF rfl ?_
    exact ⟨rfl, cs, hH, hA2⟩
  · refine vc_falseB hF rfl (gtr_f (by omega)) ?_
    apply wp_skip
    refine hK1 _ _ ?_; clear  hK1 K1
    apply wp_seq_k; intro K9 hK9
    apply wp_block
    refine vc_loop (G := Unit) (fun _ a x => Fr 77 [(0, .pointer (some ⟨hb, 0, none⟩)), (1, .slice A 0 c)] a ∧ At w [(hb, 147, cs)] x) (fun _ => 0) () ⟨hF.keep [0, 1] rfl, hA0⟩ ?_
    clear hF hA0
    rintro _ a wr ⟨hF, hA0⟩
    apply wp_seq_k; intro K10 hK10
    apply wp_seq_k; intro K11 hK11
    refine wp_region_lit ?_
    refine vc_y hF rfl rfl (by decide) _ (y_move rfl rfl) (fun a hF => ?_)
    refine vc_y hF rfl rfl (by decide) _ (y_lenSl rfl Tryd.underlying59 rfl rfl) (fun a hF => ?_)
    refine vc_y hF rfl rfl (by decide) _ (y_cmp rfl rfl rfl rfl rfl) (fun a hF => ?_)
    refine vc_nil ?_
    refine hK11 _ _ ?_; clear  hK11 K11
    refine vc_falseB hF rfl (geq_f (by decide)) ?_
    apply wp_exit
    refine hK9 _ _ ?_; clear hK10 K10 hK9 K9
    refine wp_region_plan 14 [9,14] [0,1,2,3,4,5,6,7,8,9,10,11,12,13,14] (At w [(hb, 147, cs)]) (by kernel_rfl) (by kernel_rfl) (hA0.drew) ?_
    refine vp_y hF rfl rfl rfl rfl (by decide) _ (fun x hx => y_move rfl rfl) (fun a hF => ?_)
    refine vp_y hF rfl rfl rfl rfl (by decide) _ (fun x hx => y_nilCheck rfl rfl) (fun a hF => ?_)
    refine vp_y hF rfl rfl rfl rfl (by decide) _ (fun x hx => y_field rfl Tryd.underlying147 rfl sz85_w0 (by decide) rfl (rfl : (⟨_, 0 + _, none⟩ : Addr) = ⟨_, 72, none⟩)) (fun a hF => ?_)
    refine vp_y hF rfl rfl rfl rfl (by decide) _ (fun x hx => y_loadAt rfl hx rfl 0 rfl hn72 nr85_w0) (fun a hF => ?_)
    refine vp_y hF rfl rfl rfl rfl (by decide) _ (fun x hx => y_move rfl rfl) (fun a hF => ?_)
    refine vp_y hF rfl rfl rfl rfl (by decide) _ (fun x hx => y_nilCheck rfl rfl) (fun a hF => ?_)
    refine vp_y hF rfl rfl rfl rfl (by decide) _ (fun x hx => y_field rfl Tryd.underlying147 rfl sz84_w0 (by decide) rfl (rfl : (⟨_, 0 + _, none⟩ : Addr) = ⟨_, 8, none⟩)) (fun a hF => ?_)
    refine vp_y hF rfl rfl rfl rfl (by decide) _ (fun x hx => y_sliceArr rfl Tryd.underlying145 bk_size5 rfl (.none 0) (.none 64) (by omega) (by omega) slice_to) (fun a hF => ?_)
    refine vp_y hF rfl rfl rfl rfl (by decide) _ (fun x hx => y_move rfl rfl) (fun a hF => ?_)
    refine vp_l rfl rfl rfl (fun K hK => ws_copy hF rfl (by decide) rfl hA0.drew Tryd.underlying59 bk_size5 rfl rfl [] (Nat.min_eq_left (Nat.zero_le _)).symm (Bts.nil _ _) 0 0 rfl (fun h => absurd h (by decide)) (by simp) (fun w1 a hF hA1 => hK _ _ (fun _ => by rw [← splice_none cs 0]; exact hA1) ?_))
    clear hK K
    replace hA1 : At w [(hb, 147, cs)] w1 := by rw [← splice_none cs 0]; exact hA1
    replace hF : Fr 77 ((72, .int .i64 0) :: _) a := hF
    refine vp_y hF rfl rfl rfl rfl (by decide) _ (fun x hx => y_conv rfl Tryd.underlying3 Tryd.underlying129 rfl (show IntKind.u64.wrap (0 : Int) = 0 by decide)) (fun a hF => ?_)
    refine vp_y hF rfl rfl rfl rfl (by decide) _ (fun x hx => y_add rfl rfl rfl (show IntKind.u64.wrap ((n : Int) + 0) = (n : Int) by rw [IntKind.wrap_u64]; omega)) (fun a hF => ?_)
    refine vp_y hF rfl rfl rfl rfl (by decide) _ (fun x hx => y_nilCheck rfl rfl) (fun a hF => ?_)
    refine vp_y hF rfl rfl rfl rfl (by decide) _ (fun x hx => y_field rfl Tryd.underlying147 rfl sz85_w0 (by decide) rfl (rfl : (⟨_, 0 + _, none⟩ : Addr) = ⟨_, 72, none⟩)) (fun a hF => ?_)
    refine vp_l rfl rfl rfl (fun K hK => ws_store1 hF rfl rfl hA1 rfl rfl 0 rfl (by omega) rfl sz85_w0 (fun w2 hA2 => hK _ _ (fun h => absurd h (by decide)) ?_))
    clear hK K
    replace hA2 : At w [(hb, 147, cs)] w2 := by rw [set_same hn72] at hA2; exact hA2
    refine plan_end ?_
    refine vc_end0 hF Tryd.results62 ?_
    exact ⟨rfl, cs, hH, hA2⟩

/-- Write, whatever the piece -/
theorem write_all (w : World) (hb : Nat) (m : List UInt8) (cs : List Value) (hH : HS m cs) (hrow : w.heap[hb]? = some (.cells cs.toArray 147 (0, 0))) (A : Option Addr) (l : List UInt8) (c : Nat)
    (hr : Bts w A l) (hc : l.length ≤ c) (hoff : l ≠ [] → Off A hb) (hsz : m.length + l.length < 1152921504606846976) (hT : Tab w) (hb0 : hb ≠ 0) :
    Calls Tryd.prog 62 #[.pointer (some ⟨hb, 0, none⟩), .slice A l.length c] w (Wrote w hb (m ++ l)) := by
  by_cases hl : l = []
  · subst hl
    rw [List.append_nil]
    exact write_zero w hb m cs hH hrow A c (by simpa using hsz)
  · exact write_any w hb m cs hH hrow A l c hr hc (hoff hl) hsz hT hb0
theorem bts_off {w : World} {A : Option Addr} {l : List UInt8} {g : Nat} (h : Bts w A l) (hg : w.heap.size ≤ g) : l ≠ [] → Off A g := fun hne ad he => by
  obtain ⟨b, o, rfl, hb, _⟩ := h hne
  cases he
  show b ≠ g
  omega

end Go.Proofs.YtpomngkcfbnjoaaDoor
