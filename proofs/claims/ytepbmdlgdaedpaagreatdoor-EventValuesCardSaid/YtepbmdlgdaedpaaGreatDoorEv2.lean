/- Values: whether they are formed, what is wrong with them. -/
import Derived.Test.YtepbmdlgdaedpaaGreatDoorEv1
namespace Go.Proofs.YtepbmdlgdaedpaaGreatDoor
open Go.RowKit Go.Dk

theorem nr3_v2 : notRow Tryz.prog 3 = true := by kernel_rfl
theorem nr9_v2 : notRow Tryz.prog 9 = true := by kernel_rfl
theorem nr22_v2 : notRow Tryz.prog 22 = true := by kernel_rfl
theorem nr23_v2 : notRow Tryz.prog 23 = true := by kernel_rfl
theorem rw25_v2 : isRow Tryz.prog 25 4 = true := by kernel_rfl
theorem sz3_v2 : (Tryz.prog.info? 3).map (·.size) = some 1 := by kernel_rfl
theorem sz9_v2 : (Tryz.prog.info? 9).map (·.size) = some 1 := by kernel_rfl
theorem sz22_v2 : (Tryz.prog.info? 22).map (·.size) = some 1 := by kernel_rfl
theorem sz23_v2 : (Tryz.prog.info? 23).map (·.size) = some 1 := by kernel_rfl
theorem cl153_v2 : CallsTo Tryz.prog 153 := ⟨_, Tryz.func153, by kernel_rfl, by kernel_rfl⟩
theorem cl154_v2 : CallsTo Tryz.prog 154 := ⟨_, Tryz.func154, by kernel_rfl, by kernel_rfl⟩
theorem cl155_v2 : CallsTo Tryz.prog 155 := ⟨_, Tryz.func155, by kernel_rfl, by kernel_rfl⟩
theorem cl156_v2 : CallsTo Tryz.prog 156 := ⟨_, Tryz.func156, by kernel_rfl, by kernel_rfl⟩
theorem cl192_v2 : CallsTo Tryz.prog 192 := ⟨_, Tryz.func192, by kernel_rfl, by kernel_rfl⟩


set_option maxRecDepth 100000 in
set_option maxHeartbeats 2000000 in
theorem ev_timely (n : Int) (w : World) : Calls Tryz.prog 154 #[.int .i64 n] w fun e w' => e = .returned (.bool (cmpB .geq n 0 && cmpB .leq n 4611686018427387904)) ∧ w = w' := by
  refine vc_enter Tryz.func154 rfl Tryz.ntmps154 (Nat.le_of_ble_eq_true rfl) (fun a hF => ?_)
  apply wp_seq_k; intro K1 hK1
  refine wp_region_lit ?_
  refine vc_y hF rfl rfl (by decide) _ (y_assign rfl rfl) (fun a hF => ?_)
  refine vc_nil ?_
  refine hK1 _ _ ?_; clear  hK1 K1
  apply wp_seq_k; intro K2 hK2
  refine wp_region_lit ?_
  refine vc_y hF rfl rfl (by decide) _ (y_move rfl rfl) (fun a hF => ?_)
  refine vc_y hF rfl rfl (by decide) _ (y_cmp rfl rfl rfl rfl rfl) (fun a hF => ?_)
  refine vc_y hF rfl rfl (by decide) _ (y_move rfl rfl) (fun a hF => ?_)
  refine vc_meet (l2 := ?lA1) hF [(8, .bool ((cmpB .geq (n) (0)) && (cmpB .leq (n) (4611686018427387904)))), (0, .int .i64 n), (2, .bool false)] (fun hJ1 => ?elA1) (fun a hF => ?flA1)
  case elA1 =>
    rcases tf (cmpB .geq (n) (0)) with hg1 | hg1
    · refine vc_skip hF rfl rfl rfl rfl rfl (ne_want hg1) (by decide) (fun a hF => ?_)
      refine vc_skip hF rfl rfl rfl rfl rfl (ne_want hg1) (by decide) (fun a hF => ?_)
      refine vc_y hF rfl rfl (by decide) _ (y_pickF hg1 rfl rfl rfl) (fun a hF => ?_)
      exact hJ1 _ ((hF.keep [8, 0, 2] (F' := [(8, _), (0, _), (2, _)]) rfl).bool (by rw [hg1]; rfl))
    · refine vc_yg hF rfl rfl rfl rfl (some_bool hg1) (by decide) _ (y_move rfl rfl) (fun a hF => ?_)
      refine vc_yg hF rfl rfl rfl rfl (some_bool hg1) (by decide) _ (y_cmp rfl rfl rfl rfl rfl) (fun a hF => ?_)
      refine vc_y hF rfl rfl (by decide) _ (y_pickT hg1 rfl rfl rfl) (fun a hF => ?_)
      exact hJ1 _ ((hF.keep [8, 0, 2] (F' := [(8, _), (0, _), (2, _)]) rfl).bool (by rw [hg1]; rfl))
  refine vc_y hF rfl rfl (by decide) _ (y_assign rfl rfl) (fun a hF => ?_)
  refine vc_nil ?_
  refine hK2 _ _ ?_; clear  hK2 K2
  apply wp_ret
  refine vc_ret1 hF Tryz.results154 rfl ?_
  exact ⟨rfl, rfl⟩
/-- a value with the memory of its members -/
structure VA where
  v : Val
  sA : Option Addr
  sC : Nat
abbrev VA.cells (a : VA) : List Value := a.v.cells (.slice a.sA a.v.s.length a.sC)
structure VA.Ok (w0 : World) (G : List Seg) (a : VA) : Prop where
  rc : Rc w0 G a.sA (a.v.s.map strV)
  n : a.v.s.length ≤ 9223372036854775807
  i : a.v.In
theorem VA.Ok.mono {w0 : World} {G H : List Seg} {a : VA} (h : a.Ok w0 G) (hs : G ⊆ H) : a.Ok w0 H := ⟨h.rc.mono hs, h.n, h.i⟩
def Val.Head (v : Val) : Prop := ¬ ((v.k ≠ 3 ∧ v.t ≠ []) ∨ (v.k ≠ 5 ∧ v.s ≠ []))
theorem head_iff {v : Val} {n : Int} (hn : n = (v.s.length : Nat)) : ((cmpB .neq v.k 3 && strB .neq v.t []) || (cmpB .neq v.k 5 && cmpB .gtr n 0)) = true ↔ (v.k ≠ 3 ∧ v.t ≠ []) ∨ (v.k ≠ 5 ∧ v.s ≠ []) := by
  subst hn
  simp [cmpB, strB, List.length_pos_iff]
theorem formed_no {v : Val} (h : ((cmpB .neq v.k 3 && strB .neq v.t []) || (cmpB .neq v.k 5 && cmpB .gtr ((v.s.length : Nat) : Int) 0)) = true) : v.formed = false := by
  unfold Val.formed
  rw [if_pos ((head_iff rfl).1 h)]
theorem formed_head {v : Val} (h : ((cmpB .neq v.k 3 && strB .neq v.t []) || (cmpB .neq v.k 5 && cmpB .gtr ((v.s.length : Nat) : Int) 0)) = false) : v.Head := fun hh => by
  rw [(head_iff rfl).2 hh] at h
  exact absurd h (by decide)
theorem formed_1 {v : Val} (h : v.Head) (hk : v.k = 1 ∨ v.k = 4) : v.formed = true := by
  unfold Val.formed
  rw [if_neg h, if_pos hk]
theorem formed_2 {v : Val} (h : v.Head) (hk : v.k = 2) : v.formed = ((cmpB .eql v.n 0) || (cmpB .eql v.n 1)) := by
  unfold Val.formed
  rw [if_neg h, if_neg (by omega), if_pos hk]
  unfold cmpB
  rw [Bool.eq_iff_iff]
  simp
theorem formed_0 {v : Val} (h : v.Head) (hk : v.k = 0 ∨ v.k = 3) : v.formed = cmpB .eql v.n 0 := by
  unfold Val.formed
  rw [if_neg h, if_neg (by omega), if_neg (by omega), if_pos hk]
  unfold cmpB
  rw [Bool.eq_iff_iff]
  simp
theorem formed_5 {v : Val} (h : v.Head) (hk : v.k = 5) : v.formed = (risesTo v.s v.s.length && cmpB .eql v.n 0) := by
  unfold Val.formed
  rw [if_neg h, if_neg (by omega), if_neg (by omega), if_neg (by omega), if_pos hk]
  unfold cmpB
  rw [Bool.eq_iff_iff]
  simp
theorem formed_x {v : Val} (h : v.Head) (h1 : ¬ v.k = 1) (h4 : ¬ v.k = 4) (h2 : ¬ v.k = 2) (h0 : ¬ v.k = 0) (h3 : ¬ v.k = 3) (h5 : ¬ v.k = 5) : v.formed = false := by
  unfold Val.formed
  rw [if_neg h, if_neg (by omega), if_neg (by omega), if_neg (by omega), if_neg (by omega)]
theorem rises_step (s : List (List UInt8)) (i : Nat) (hi : 1 ≤ i) : risesTo s (i + 1) = (risesTo s i && !strB .geq (s.getD (i - 1) []) (s.getD i [])) := by
  obtain ⟨j, rfl⟩ : ∃ j, i = j + 1 := ⟨i - 1, by omega⟩
  rfl
theorem rises_up {s : List (List UInt8)} {i : Nat} {q0 q : List UInt8} (hi : 1 ≤ i) (h0 : s[i - 1]? = some q0) (h1 : s[i]? = some q) (hr : risesTo s i = true) (hg : strB .geq q0 q = false) : risesTo s (i + 1) = true := by
  rw [rises_step s i hi, hr, List.getD_eq_getElem?_getD, List.getD_eq_getElem?_getD, h0, h1]
  show (true && !strB .geq q0 q) = true
  rw [hg]; rfl
theorem rises_not {s : List (List UInt8)} {i : Nat} (h : risesTo s i = false) : ∀ j, i ≤ j → 1 ≤ i → risesTo s j = false
  | 0, hj, hi => by omega
  | j + 1, hj, hi => by
    rcases Nat.eq_or_lt_of_le hj with e | hlt
    · rw [← e]; exact h
    · rw [rises_step s j (by omega), rises_not h j (by omega) hi, Bool.false_and]
theorem rises_no {s : List (List UInt8)} {i : Nat} {q0 q : List UInt8} (hi : 1 ≤ i) (hl : i < s.length) (h0 : s[i - 1]? = some q0) (h1 : s[i]? = some q) (hg : strB .geq q0 q = true) : risesTo s s.length = false := by
  refine rises_not (i := i + 1) ?_ _ hl (by omega)
  rw [rises_step s i hi, List.getD_eq_getElem?_getD, List.getD_eq_getElem?_getD, h0, h1]
  show (_ && !strB .geq q0 q) = false
  rw [hg, Bool.not_true, Bool.and_false]
theorem rises_end {s : List (List UInt8)} {i : Nat} (hi1 : 1 ≤ i) (hi : i = 1 ∨ i ≤ s.length) (hl : ¬ i < s.length) (hr : risesTo s i = true) : risesTo s s.length = true := by
  rcases Nat.eq_or_lt_of_le (Nat.le_of_not_lt hl) with e | h
  · rw [e]; exact hr
  · rw [show s.length = 0 by omega]; rfl

set_option maxRecDepth 100000 in
set_option maxHeartbeats 2000000 in
theorem ev_formed {w0 : World} {R : List Seg} {G : List Seg} (va : VA) (w : World) (hV : va.Ok w0 G) (hG : G ⊆ R) (hA : Hp w0 R w) : Calls Tryz.prog 153 #[.agg va.cells.toArray] w fun e w' => e = .returned (.bool va.v.formed) ∧ Hp w0 R w' := by
  have hn := hV.n
  refine vc_enter Tryz.func153 rfl Tryz.ntmps153 (Nat.le_of_ble_eq_true rfl) (fun a hF => ?_)
  apply wp_seq_k; intro K1 hK1
  refine wp_region_lit ?_
  refine vc_op rfl (fun K hK => hs_box (cs := [.int .i64 va.v.k, .int .i64 va.v.n, strV va.v.t, .slice va.sA va.v.s.length va.sC]) hF rfl (by decide) rfl hA rfl (fun b1 w2 a hb1 hF hA3 => hK _ _ ?_))
  clear hK K
  replace hA3 : Hp w0 ([row b1 25 [.int .i64 va.v.k, .int .i64 va.v.n, strV va.v.t, .slice va.sA va.v.s.length va.sC]] :: R) w2 := hA3
  refine vc_y hF rfl rfl (by decide) _ (y_assign rfl rfl) (fun a hF => ?_)
  refine vc_nil ?_
  refine hK1 _ _ ?_; clear  hK1 K1
  apply wp_seq_k; intro K2 hK2
  apply wp_seq_k; intro K3 hK3
  refine wp_region_lit ?_
  refine vc_y hF rfl rfl (by decide) _ (y_field rfl Tryz.underlying25 rfl sz22_v2 (by decide) rfl (rfl : (⟨_, 0 + _, none⟩ : Addr) = ⟨_, 0, none⟩)) (fun a hF => ?_)
  refine vc_y hF rfl rfl (by decide) _ (y_ld rfl hA3.q rfl 0 rfl rfl nr22_v2) (fun a hF => ?_)
  refine vc_y hF rfl rfl (by decide) _ (y_cmp rfl rfl rfl rfl rfl) (fun a hF => ?_)
  refine vc_y hF rfl rfl (by decide) _ (y_move rfl rfl) (fun a hF => ?_)
  refine vc_meet (l2 := ?lA1) hF [(11, .bool ((cmpB .neq (va.v.k) (3)) && (strB .neq va.v.t []))), (0, .agg ([.int .i64 va.v.k, .int .i64 va.v.n, strV va.v.t, .slice va.sA va.v.s.length va.sC]).toArray), (1, .pointer (some ⟨b1, 0, none⟩)), (2, .bool false)] (fun hJ1 => ?elA1) (fun a hF => ?flA1)
  case elA1 =>
    rcases tf (cmpB .neq (va.v.k) (3)) with hg1 | hg1
    · refine vc_skip hF rfl rfl rfl rfl rfl (ne_want hg1) (by decide) (fun a hF => ?_)
      refine vc_skip hF rfl rfl rfl rfl rfl (ne_want hg1) (by decide) (fun a hF => ?_)
      refine vc_skip hF rfl rfl rfl rfl rfl (ne_want hg1) (by decide) (fun a hF => ?_)
      refine vc_y hF rfl rfl (by decide) _ (y_pickF hg1 rfl rfl rfl) (fun a hF => ?_)
      exact hJ1 _ ((hF.keep [11, 0, 1, 2] (F' := [(11, _), (0, _), (1, _), (2, _)]) rfl).bool (by rw [hg1]; rfl))
    · refine vc_yg hF rfl rfl rfl rfl (some_bool hg1) (by decide) _ (y_field rfl Tryz.underlying25 rfl sz9_v2 (by decide) rfl (rfl : (⟨_, 0 + _, none⟩ : Addr) = ⟨_, 2, none⟩)) (fun a hF => ?_)
      refine vc_yg hF rfl rfl rfl rfl (some_bool hg1) (by decide) _ (y_ld rfl hA3.q rfl 0 rfl rfl nr9_v2) (fun a hF => ?_)
      refine vc_yg hF rfl rfl rfl rfl (some_bool hg1) (by decide) _ (y_cmpS rfl rfl rfl rfl rfl) (fun a hF => ?_)
      refine vc_y hF rfl rfl (by decide) _ (y_pickT hg1 rfl rfl rfl) (fun a hF => ?_)
      exact hJ1 _ ((hF.keep [11, 0, 1, 2] (F' := [(11, _), (0, _), (1, _), (2, _)]) rfl).bool (by rw [hg1]; rfl))
  refine vc_y hF rfl rfl (by decide) _ (y_move rfl rfl) (fun a hF => ?_)
  refine vc_meet (l2 := ?lA2) hF [(22, .bool (((cmpB .neq (va.v.k) (3)) && (strB .neq va.v.t [])) || ((cmpB .neq (va.v.k) (5)) && (cmpB .gtr (va.v.s.length) (0))))), (0, .agg ([.int .i64 va.v.k, .int .i64 va.v.n, strV va.v.t, .slice va.sA va.v.s.length va.sC]).toArray), (1, .pointer (some ⟨b1, 0, none⟩)), (2, .bool false)] (fun hJ2 => ?elA2) (fun a hF => ?flA2)
  case elA2 =>
    rcases tf ((cmpB .neq (va.v.k) (3)) && (strB .neq va.v.t [])) with hg2 | hg2
    · refine vc_yg hF rfl rfl rfl rfl (some_bool hg2) (by decide) _ (y_field rfl Tryz.underlying25 rfl sz22_v2 (by decide) rfl (rfl : (⟨_, 0 + _, none⟩ : Addr) = ⟨_, 0, none⟩)) (fun a hF => ?_)
      refine vc_yg hF rfl rfl rfl rfl (some_bool hg2) (by decide) _ (y_ld rfl hA3.q rfl 0 rfl rfl nr22_v2) (fun a hF => ?_)
      refine vc_yg hF rfl rfl rfl rfl (some_bool hg2) (by decide) _ (y_cmp rfl rfl rfl rfl rfl) (fun a hF => ?_)
      refine vc_yg hF rfl rfl rfl rfl (some_bool hg2) (by decide) _ (y_move rfl rfl) (fun a hF => ?_)
      refine vc_meet (l2 := ?lA3) hF [(21, .bool ((cmpB .neq (va.v.k) (5)) && (cmpB .gtr (va.v.s.length) (0)))), (0, .agg ([.int .i64 va.v.k, .int .i64 va.v.n, strV va.v.t, .slice va.sA va.v.s.length va.sC]).toArray), (1, .pointer (some ⟨b1, 0, none⟩)), (2, .bool false), (12, .bool ((cmpB .neq (va.v.k) (3)) && (strB .neq va.v.t [])))] (fun hJ3 => ?elA3) (fun a hF => ?flA3)
      case elA3 =>
        rcases tf (cmpB .neq (va.v.k) (5)) with hg3 | hg3
        · refine vc_skip hF rfl rfl rfl rfl rfl (ne_want hg3) (by decide) (fun a hF => ?_)
          refine vc_skip hF rfl rfl rfl rfl rfl (ne_want hg3) (by decide) (fun a hF => ?_)
          refine vc_skip hF rfl rfl rfl rfl rfl (ne_want hg3) (by decide) (fun a hF => ?_)
          refine vc_skip hF rfl rfl rfl rfl rfl (ne_want hg3) (by decide) (fun a hF => ?_)
          refine vc_yg hF rfl rfl rfl rfl (some_bool hg2) (by decide) _ (y_pickF hg3 rfl rfl rfl) (fun a hF => ?_)
          exact hJ3 _ ((hF.keep [21, 0, 1, 2, 12] (F' := [(21, _), (0, _), (1, _), (2, _), (12, _)]) rfl).bool (by rw [hg3]; rfl))
        · refine vc_yg hF rfl rfl rfl rfl (some_bool hg3) (by decide) _ (y_field rfl Tryz.underlying25 rfl sz23_v2 (by decide) rfl (rfl : (⟨_, 0 + _, none⟩ : Addr) = ⟨_, 3, none⟩)) (fun a hF => ?_)
          refine vc_yg hF rfl rfl rfl rfl (some_bool hg3) (by decide) _ (y_ld rfl hA3.q rfl 0 rfl rfl nr23_v2) (fun a hF => ?_)
          refine vc_yg hF rfl rfl rfl rfl (some_bool hg3) (by decide) _ (y_lenSl rfl Tryz.underlying23 rfl rfl) (fun a hF => ?_)
          refine vc_yg hF rfl rfl rfl rfl (some_bool hg3) (by decide) _ (y_cmp rfl rfl rfl rfl rfl) (fun a hF => ?_)
          refine vc_yg hF rfl rfl rfl rfl (some_bool hg2) (by decide) _ (y_pickT hg3 rfl rfl rfl) (fun a hF => ?_)
          exact hJ3 _ ((hF.keep [21, 0, 1, 2, 12] (F' := [(21, _), (0, _), (1, _), (2, _), (12, _)]) rfl).bool (by rw [hg3]; rfl))
      refine vc_y hF rfl rfl (by decide) _ (y_pickF hg2 rfl rfl rfl) (fun a hF => ?_)
      exact hJ2 _ ((hF.keep [22, 0, 1, 2] (F' := [(22, _), (0, _), (1, _), (2, _)]) rfl).bool (by rw [hg2]; rfl))
    · refine vc_skip hF rfl rfl rfl rfl rfl (ne_want hg2) (by decide) (fun a hF => ?_)
      refine vc_skip hF rfl rfl rfl rfl rfl (ne_want hg2) (by decide) (fun a hF => ?_)
      refine vc_skip hF rfl rfl rfl rfl rfl (ne_want hg2) (by decide) (fun a hF => ?_)
      refine vc_skip hF rfl rfl rfl rfl rfl (ne_want hg2) (by decide) (fun a hF => ?_)
      refine vc_skipU hF rfl rfl rfl rfl rfl (by decide) (fun a hF => ?_)
      refine vc_skipU hF rfl rfl rfl rfl rfl (by decide) (fun a hF => ?_)
      refine vc_skipU hF rfl rfl rfl rfl rfl (by decide) (fun a hF => ?_)
      refine vc_skipU hF rfl rfl rfl rfl rfl (by decide) (fun a hF => ?_)
      refine vc_skip hF rfl rfl rfl rfl rfl (ne_want hg2) (by decide) (fun a hF => ?_)
      refine vc_y hF rfl rfl (by decide) _ (y_pickT hg2 rfl rfl rfl) (fun a hF => ?_)
      exact hJ2 _ ((hF.keep [22, 0, 1, 2] (F' := [(22, _), (0, _), (1, _), (2, _)]) rfl).bool (by rw [hg2]; rfl))
  refine vc_nil ?_
  refine hK3 _ _ ?_; clear  hK3 K3
  rcases tf (((cmpB .neq (va.v.k) (3)) && (strB .neq va.v.t [])) || ((cmpB .neq (va.v.k) (5)) && (cmpB .gtr (va.v.s.length) (0)))) with hs | hs
  · refine vc_falseB hF rfl hs ?_
    have hh := formed_head hs
    by_cases hk1 : va.v.k = 1
    · apply wp_skip
      refine hK2 _ _ ?_; clear  hK2 K2
      apply wp_seq_k; intro K4 hK4
      apply wp_seq_k; intro K5 hK5
      refine wp_region_lit ?_
      refine vc_y hF rfl rfl (by decide) _ (y_field rfl Tryz.underlying25 rfl sz22_v2 (by decide) rfl (rfl : (⟨_, 0 + _, none⟩ : Addr) = ⟨_, 0, none⟩)) (fun a hF => ?_)
      refine vc_y hF rfl rfl (by decide) _ (y_ld rfl hA3.q rfl 0 rfl rfl nr22_v2) (fun a hF => ?_)
      refine vc_nil ?_
      refine hK5 _ _ ?_; clear  hK5 K5
      apply wp_block
      apply wp_seq_k; intro K6 hK6
      apply wp_seq_k; intro K7 hK7
      refine wp_region_lit ?_
      refine vc_y hF rfl rfl (by decide) _ (y_cmp rfl rfl rfl rfl rfl) (fun a hF => ?_)
      refine vc_y hF rfl rfl (by decide) _ (y_assign rfl rfl) (fun a hF => ?_)
      refine vc_nil ?_
      refine hK7 _ _ ?_; clear  hK7 K7
      refine vc_trueB hF rfl (eql_t (by omega)) ?_
      apply wp_skip
      refine hK6 _ _ ?_; clear  hK6 K6
      refine vc_trueB hF rfl (eql_t (by omega)) ?_
      apply wp_seq_k; intro K8 hK8
      refine wp_region_lit ?_
      refine vc_y hF rfl rfl (by decide) _ (y_assign rfl rfl) (fun a hF => ?_)
      refine vc_nil ?_
      refine hK8 _ _ ?_; clear  hK8 K8
      apply wp_ret
      simp only [Exit.then, Exit.inBlock]
      refine vc_ret1 hF Tryz.results153 rfl ?_
      have hA4 : Hp w0 (R) w2 := Hp.sel [[row b1 25 [.int .i64 va.v.k, .int .i64 va.v.n, strV va.v.t, .slice va.sA va.v.s.length va.sC]]] R [] [0] hA3 rfl
      exact ⟨by rw [formed_1 hh (.inl hk1)], hA4⟩
    · by_cases hk4 : va.v.k = 4
      · apply wp_skip
        refine hK2 _ _ ?_; clear  hK2 K2
        apply wp_seq_k; intro K9 hK9
        apply wp_seq_k; intro K10 hK10
        refine wp_region_lit ?_
        refine vc_y hF rfl rfl (by decide) _ (y_field rfl Tryz.underlying25 rfl sz22_v2 (by decide) rfl (rfl : (⟨_, 0 + _, none⟩ : Addr) = ⟨_, 0, none⟩)) (fun a hF => ?_)
        refine vc_y hF rfl rfl (by decide) _ (y_ld rfl hA3.q rfl 0 rfl rfl nr22_v2) (fun a hF => ?_)
        refine vc_nil ?_
        refine hK10 _ _ ?_; clear  hK10 K10
        apply wp_block
        apply wp_seq_k; intro K11 hK11
        apply wp_seq_k; intro K12 hK12
        refine wp_region_lit ?_
        refine vc_y hF rfl rfl (by decide) _ (y_cmp rfl rfl rfl rfl rfl) (fun a hF => ?_)
        refine vc_y hF rfl rfl (by decide) _ (y_assign rfl rfl) (fun a hF => ?_)
        refine vc_nil ?_
        refine hK12 _ _ ?_; clear  hK12 K12
        refine vc_falseB hF rfl (eql_f (by omega)) ?_
        refine wp_region_lit ?_
        refine vc_y hF rfl rfl (by decide) _ (y_cmp rfl rfl rfl rfl rfl) (fun a hF => ?_)
        refine vc_y hF rfl rfl (by decide) _ (y_assign rfl rfl) (fun a hF => ?_)
        refine vc_nil ?_
        refine hK11 _ _ ?_; clear  hK11 K11
        refine vc_trueB hF rfl (eql_t (by omega)) ?_
        apply wp_seq_k; intro K13 hK13
        refine wp_region_lit ?_
        refine vc_y hF rfl rfl (by decide) _ (y_assign rfl rfl) (fun a hF => ?_)
        refine vc_nil ?_
        refine hK13 _ _ ?_; clear  hK13 K13
        apply wp_ret
        simp only [Exit.then, Exit.inBlock]
        refine vc_ret1 hF Tryz.results153 rfl ?_
        have hA5 : Hp w0 (R) w2 := Hp.sel [[row b1 25 [.int .i64 va.v.k, .int .i64 va.v.n, strV va.v.t, .slice va.sA va.v.s.length va.sC]]] R [] [0] hA3 rfl
        exact ⟨by rw [formed_1 hh (.inr hk4)], hA5⟩
      · by_cases hk2 : va.v.k = 2
        · apply wp_skip
          refine hK2 _ _ ?_; clear  hK2 K2
          apply wp_seq_k; intro K14 hK14
          apply wp_seq_k; intro K15 hK15
          refine wp_region_lit ?_
          refine vc_y hF rfl rfl (by decide) _ (y_field rfl Tryz.underlying25 rfl sz22_v2 (by decide) rfl (rfl : (⟨_, 0 + _, none⟩ : Addr) = ⟨_, 0, none⟩)) (fun a hF => ?_)
          refine vc_y hF rfl rfl (by decide) _ (y_ld rfl hA3.q rfl 0 rfl rfl nr22_v2) (fun a hF => ?_)
          refine vc_nil ?_
          refine hK15 _ _ ?_; clear  hK15 K15
          apply wp_block
          apply wp_seq_k; intro K16 hK16
          apply wp_seq_k; intro K17 hK17
          refine wp_region_lit ?_
          refine vc_y hF rfl rfl (by decide) _ (y_cmp rfl rfl rfl rfl rfl) (fun a hF => ?_)
          refine vc_y hF rfl rfl (by decide) _ (y_assign rfl rfl) (fun a hF => ?_)
          refine vc_nil ?_
          refine hK17 _ _ ?_; clear  hK17 K17
          refine vc_falseB hF rfl (eql_f (by omega)) ?_
          refine wp_region_lit ?_
          refine vc_y hF rfl rfl (by decide) _ (y_cmp rfl rfl rfl rfl rfl) (fun a hF => ?_)
          refine vc_y hF rfl rfl (by decide) _ (y_assign rfl rfl) (fun a hF => ?_)
          refine vc_nil ?_
          refine hK16 _ _ ?_; clear  hK16 K16
          refine vc_falseB hF rfl (eql_f (by omega)) ?_
          apply wp_seq_k; intro K18 hK18
          refine wp_region_lit ?_
          refine vc_y hF rfl rfl (by decide) _ (y_cmp rfl rfl rfl rfl rfl) (fun a hF => ?_)
          refine vc_y hF rfl rfl (by decide) _ (y_assign rfl rfl) (fun a hF => ?_)
          refine vc_nil ?_
          refine hK18 _ _ ?_; clear  hK18 K18
          refine vc_trueB hF rfl (eql_t (by omega)) ?_
          apply wp_seq_k; intro K19 hK19
          refine wp_region_lit ?_
          refine vc_y hF rfl rfl (by decide) _ (y_field rfl Tryz.underlying25 rfl sz3_v2 (by decide) rfl (rfl : (⟨_, 0 + _, none⟩ : Addr) = ⟨_, 1, none⟩)) (fun a hF => ?_)
          refine vc_y hF rfl rfl (by decide) _ (y_ld rfl hA3.q rfl 0 rfl rfl nr3_v2) (fun a hF => ?_)
          refine vc_y hF rfl rfl (by decide) _ (y_cmp rfl rfl rfl rfl rfl) (fun a hF => ?_)
          refine vc_y hF rfl rfl (by decide) _ (y_move rfl rfl) (fun a hF => ?_)
          refine vc_meet (l2 := ?lA4) hF [(37, .bool ((cmpB .eql (va.v.n) (0)) || (cmpB .eql (va.v.n) (1)))), (0, .agg ([.int .i64 va.v.k, .int .i64 va.v.n, strV va.v.t, .slice va.sA va.v.s.length va.sC]).toArray), (1, .pointer (some ⟨b1, 0, none⟩)), (2, .bool false), (22, .bool (((cmpB .neq (va.v.k) (3)) && (strB .neq va.v.t [])) || ((cmpB .neq (va.v.k) (5)) && (cmpB .gtr (va.v.s.length) (0))))), (23, .pointer (some ⟨b1, 0, none⟩)), (24, .int .i64 va.v.k), (26, .bool (cmpB .eql (va.v.k) (1))), (25, .bool (cmpB .eql (va.v.k) (4))), (27, .bool (cmpB .eql (va.v.k) (4))), (29, .bool (cmpB .eql (va.v.k) (2))), (28, .bool (cmpB .eql (va.v.k) (2)))] (fun hJ4 => ?elA4) (fun a hF => ?flA4)
          case elA4 =>
            rcases tf (cmpB .eql (va.v.n) (0)) with hg4 | hg4
            · refine vc_yg hF rfl rfl rfl rfl (some_bool hg4) (by decide) _ (y_field rfl Tryz.underlying25 rfl sz3_v2 (by decide) rfl (rfl : (⟨_, 0 + _, none⟩ : Addr) = ⟨_, 1, none⟩)) (fun a hF => ?_)
              refine vc_yg hF rfl rfl rfl rfl (some_bool hg4) (by decide) _ (y_ld rfl hA3.q rfl 0 rfl rfl nr3_v2) (fun a hF => ?_)
              refine vc_yg hF rfl rfl rfl rfl (some_bool hg4) (by decide) _ (y_cmp rfl rfl rfl rfl rfl) (fun a hF => ?_)
              refine vc_y hF rfl rfl (by decide) _ (y_pickF hg4 rfl rfl rfl) (fun a hF => ?_)
              exact hJ4 _ ((hF.keep [37, 0, 1, 2, 22, 23, 24, 26, 25, 27, 29, 28] (F' := [(37, _), (0, _), (1, _), (2, _), (22, _), (23, _), (24, _), (26, _), (25, _), (27, _), (29, _), (28, _)]) rfl).bool (by rw [hg4]; rfl))
            · refine vc_skip hF rfl rfl rfl rfl rfl (ne_want hg4) (by decide) (fun a hF => ?_)
              refine vc_skip hF rfl rfl rfl rfl rfl (ne_want hg4) (by decide) (fun a hF => ?_)
              refine vc_skip hF rfl rfl rfl rfl rfl (ne_want hg4) (by decide) (fun a hF => ?_)
              refine vc_y hF rfl rfl (by decide) _ (y_pickT hg4 rfl rfl rfl) (fun a hF => ?_)
              exact hJ4 _ ((hF.keep [37, 0, 1, 2, 22, 23, 24, 26, 25, 27, 29, 28] (F' := [(37, _), (0, _), (1, _), (2, _), (22, _), (23, _), (24, _), (26, _), (25, _), (27, _), (29, _), (28, _)]) rfl).bool (by rw [hg4]; rfl))
          refine vc_y hF rfl rfl (by decide) _ (y_assign rfl rfl) (fun a hF => ?_)
          refine vc_nil ?_
          refine hK19 _ _ ?_; clear  hK19 K19
          apply wp_ret
          simp only [Exit.then, Exit.inBlock]
          refine vc_ret1 hF Tryz.results153 rfl ?_
          have hA6 : Hp w0 (R) w2 := Hp.sel [[row b1 25 [.int .i64 va.v.k, .int .i64 va.v.n, strV va.v.t, .slice va.sA va.v.s.length va.sC]]] R [] [0] hA3 rfl
          exact ⟨by rw [formed_2 hh hk2], hA6⟩
        · by_cases hk0 : va.v.k = 0
          · apply wp_skip
            refine hK2 _ _ ?_; clear  hK2 K2
            apply wp_seq_k; intro K20 hK20
            apply wp_seq_k; intro K21 hK21
            refine wp_region_lit ?_
            refine vc_y hF rfl rfl (by decide) _ (y_field rfl Tryz.underlying25 rfl sz22_v2 (by decide) rfl (rfl : (⟨_, 0 + _, none⟩ : Addr) = ⟨_, 0, none⟩)) (fun a hF => ?_)
            refine vc_y hF rfl rfl (by decide) _ (y_ld rfl hA3.q rfl 0 rfl rfl nr22_v2) (fun a hF => ?_)
            refine vc_nil ?_
            refine hK21 _ _ ?_; clear  hK21 K21
            apply wp_block
            apply wp_seq_k; intro K22 hK22
            apply wp_seq_k; intro K23 hK23
            refine wp_region_lit ?_
            refine vc_y hF rfl rfl (by decide) _ (y_cmp rfl rfl rfl rfl rfl) (fun a hF => ?_)
            refine vc_y hF rfl rfl (by decide) _ (y_assign rfl rfl) (fun a hF => ?_)
            refine vc_nil ?_
            refine hK23 _ _ ?_; clear  hK23 K23
            refine vc_falseB hF rfl (eql_f (by omega)) ?_
            refine wp_region_lit ?_
            refine vc_y hF rfl rfl (by decide) _ (y_cmp rfl rfl rfl rfl rfl) (fun a hF => ?_)
            refine vc_y hF rfl rfl (by decide) _ (y_assign rfl rfl) (fun a hF => ?_)
            refine vc_nil ?_
            refine hK22 _ _ ?_; clear  hK22 K22
            refine vc_falseB hF rfl (eql_f (by omega)) ?_
            apply wp_seq_k; intro K24 hK24
            refine wp_region_lit ?_
            refine vc_y hF rfl rfl (by decide) _ (y_cmp rfl rfl rfl rfl rfl) (fun a hF => ?_)
            refine vc_y hF rfl rfl (by decide) _ (y_assign rfl rfl) (fun a hF => ?_)
            refine vc_nil ?_
            refine hK24 _ _ ?_; clear  hK24 K24
            refine vc_falseB hF rfl (eql_f (by omega)) ?_
            apply wp_seq_k; intro K25 hK25
            apply wp_seq_k; intro K26 hK26
            refine wp_region_lit ?_
            refine vc_y hF rfl rfl (by decide) _ (y_cmp rfl rfl rfl rfl rfl) (fun a hF => ?_)
            refine vc_y hF rfl rfl (by decide) _ (y_assign rfl rfl) (fun a hF => ?_)
            refine vc_nil ?_
            refine hK26 _ _ ?_; clear  hK26 K26
            refine vc_trueB hF rfl (eql_t (by omega)) ?_
            apply wp_skip
            refine hK25 _ _ ?_; clear  hK25 K25
            refine vc_trueB hF rfl (eql_t (by omega)) ?_
            apply wp_seq_k; intro K27 hK27
            refine wp_region_lit ?_
            refine vc_y hF rfl rfl (by decide) _ (y_field rfl Tryz.underlying25 rfl sz3_v2 (by decide) rfl (rfl : (⟨_, 0 + _, none⟩ : Addr) = ⟨_, 1, none⟩)) (fun a hF => ?_)
            refine vc_y hF rfl rfl (by decide) _ (y_ld rfl hA3.q rfl 0 rfl rfl nr3_v2) (fun a hF => ?_)
            refine vc_y hF rfl rfl (by decide) _ (y_cmp rfl rfl rfl rfl rfl) (fun a hF => ?_)
            refine vc_y hF rfl rfl (by decide) _ (y_assign rfl rfl) (fun a hF => ?_)
            refine vc_nil ?_
            refine hK27 _ _ ?_; clear  hK27 K27
            apply wp_ret
            simp only [Exit.then, Exit.inBlock]
            refine vc_ret1 hF Tryz.results153 rfl ?_
            have hA7 : Hp w0 (R) w2 := Hp.sel [[row b1 25 [.int .i64 va.v.k, .int .i64 va.v.n, strV va.v.t, .slice va.sA va.v.s.length va.sC]]] R [] [0] hA3 rfl
            exact ⟨by rw [formed_0 hh (.inl hk0)], hA7⟩
          · by_cases hk3 : va.v.k = 3
            · apply wp_skip
              refine hK2 _ _ ?_; clear  hK2 K2
              apply wp_seq_k; intro K28 hK28
              apply wp_seq_k; intro K29 hK29
              refine wp_region_lit ?_
              refine vc_y hF rfl rfl (by decide) _ (y_field rfl Tryz.underlying25 rfl sz22_v2 (by decide) rfl (rfl : (⟨_, 0 + _, none⟩ : Addr) = ⟨_, 0, none⟩)) (fun a hF => ?_)
              refine vc_y hF rfl rfl (by decide) _ (y_ld rfl hA3.q rfl 0 rfl rfl nr22_v2) (fun a hF => ?_)
              refine vc_nil ?_
              refine hK29 _ _ ?_; clear  hK29 K29
              apply wp_block
              apply wp_seq_k; intro K30 hK30
              apply wp_seq_k; intro K31 hK31
              refine wp_region_lit ?_
              refine vc_y hF rfl rfl (by decide) _ (y_cmp rfl rfl rfl rfl rfl) (fun a hF => ?_)
              refine vc_y hF rfl rfl (by decide) _ (y_assign rfl rfl) (fun a hF => ?_)
              refine vc_nil ?_
              refine hK31 _ _ ?_; clear  hK31 K31
              refine vc_falseB hF rfl (eql_f (by omega)) ?_
              refine wp_region_lit ?_
              refine vc_y hF rfl rfl (by decide) _ (y_cmp rfl rfl rfl rfl rfl) (fun a hF => ?_)
              refine vc_y hF rfl rfl (by decide) _ (y_assign rfl rfl) (fun a hF => ?_)
              refine vc_nil ?_
              refine hK30 _ _ ?_; clear  hK30 K30
              refine vc_falseB hF rfl (eql_f (by omega)) ?_
              apply wp_seq_k; intro K32 hK32
              refine wp_region_lit ?_
              refine vc_y hF rfl rfl (by decide) _ (y_cmp rfl rfl rfl rfl rfl) (fun a hF => ?_)
              refine vc_y hF rfl rfl (by decide) _ (y_assign rfl rfl) (fun a hF => ?_)
              refine vc_nil ?_
              refine hK32 _ _ ?_; clear  hK32 K32
              refine vc_falseB hF rfl (eql_f (by omega)) ?_
              apply wp_seq_k; intro K33 hK33
              apply wp_seq_k; intro K34 hK34
              refine wp_region_lit ?_
              refine vc_y hF rfl rfl (by decide) _ (y_cmp rfl rfl rfl rfl rfl) (fun a hF => ?_)
              refine vc_y hF rfl rfl (by decide) _ (y_assign rfl rfl) (fun a hF => ?_)
              refine vc_nil ?_
              refine hK34 _ _ ?_; clear  hK34 K34
              refine vc_falseB hF rfl (eql_f (by omega)) ?_
              refine wp_region_lit ?_
              refine vc_y hF rfl rfl (by decide) _ (y_cmp rfl rfl rfl rfl rfl) (fun a hF => ?_)
              refine vc_y hF rfl rfl (by decide) _ (y_assign rfl rfl) (fun a hF => ?_)
              refine vc_nil ?_
              refine hK33 _ _ ?_; clear  hK33 K33
              refine vc_trueB hF rfl (eql_t (by omega)) ?_
              apply wp_seq_k; intro K35 hK35
              refine wp_region_lit ?_
              refine vc_y hF rfl rfl (by decide) _ (y_field rfl Tryz.underlying25 rfl sz3_v2 (by decide) rfl (rfl : (⟨_, 0 + _, none⟩ : Addr) = ⟨_, 1, none⟩)) (fun a hF => ?_)
              refine vc_y hF rfl rfl (by decide) _ (y_ld rfl hA3.q rfl 0 rfl rfl nr3_v2) (fun a hF => ?_)
              refine vc_y hF rfl rfl (by decide) _ (y_cmp rfl rfl rfl rfl rfl) (fun a hF => ?_)
              refine vc_y hF rfl rfl (by decide) _ (y_assign rfl rfl) (fun a hF => ?_)
              refine vc_nil ?_
              refine hK35 _ _ ?_; clear  hK35 K35
              apply wp_ret
              simp only [Exit.then, Exit.inBlock]
              refine vc_ret1 hF Tryz.results153 rfl ?_
              have hA8 : Hp w0 (R) w2 := Hp.sel [[row b1 25 [.int .i64 va.v.k, .int .i64 va.v.n, strV va.v.t, .slice va.sA va.v.s.length va.sC]]] R [] [0] hA3 rfl
              exact ⟨by rw [formed_0 hh (.inr hk3)], hA8⟩
            · by_cases hk5 : va.v.k = 5
              · apply wp_skip
                refine hK2 _ _ ?_; clear  hK2 K2
                apply wp_seq_k; intro K36 hK36
                apply wp_seq_k; intro K37 hK37
                refine wp_region_lit ?_
                refine vc_y hF rfl rfl (by decide) _ (y_field rfl Tryz.underlying25 rfl sz22_v2 (by decide) rfl (rfl : (⟨_, 0 + _, none⟩ : Addr) = ⟨_, 0, none⟩)) (fun a hF => ?_)
                refine vc_y hF rfl rfl (by decide) _ (y_ld rfl hA3.q rfl 0 rfl rfl nr22_v2) (fun a hF => ?_)
                refine vc_nil ?_
                refine hK37 _ _ ?_; clear  hK37 K37
                apply wp_block
                apply wp_seq_k; intro K38 hK38
                apply wp_seq_k; intro K39 hK39
                refine wp_region_lit ?_
                refine vc_y hF rfl rfl (by decide) _ (y_cmp rfl rfl rfl rfl rfl) (fun a hF => ?_)
                refine vc_y hF rfl rfl (by decide) _ (y_assign rfl rfl) (fun a hF => ?_)
                refine vc_nil ?_
                refine hK39 _ _ ?_; clear  hK39 K39
                refine vc_falseB hF rfl (eql_f (by omega)) ?_
                refine wp_region_lit ?_
                refine vc_y hF rfl rfl (by decide) _ (y_cmp rfl rfl rfl rfl rfl) (fun a hF => ?_)
                refine vc_y hF rfl rfl (by decide) _ (y_assign rfl rfl) (fun a hF => ?_)
                refine vc_nil ?_
                refine hK38 _ _ ?_; clear  hK38 K38
                refine vc_falseB hF rfl (eql_f (by omega)) ?_
                apply wp_seq_k; intro K40 hK40
                refine wp_region_lit ?_
                refine vc_y hF rfl rfl (by decide) _ (y_cmp rfl rfl rfl rfl rfl) (fun a hF => ?_)
                refine vc_y hF rfl rfl (by decide) _ (y_assign rfl rfl) (fun a hF => ?_)
                refine vc_nil ?_
                refine hK40 _ _ ?_; clear  hK40 K40
                refine vc_falseB hF rfl (eql_f (by omega)) ?_
                apply wp_seq_k; intro K41 hK41
                apply wp_seq_k; intro K42 hK42
                refine wp_region_lit ?_
                refine vc_y hF rfl rfl (by decide) _ (y_cmp rfl rfl rfl rfl rfl) (fun a hF => ?_)
                refine vc_y hF rfl rfl (by decide) _ (y_assign rfl rfl) (fun a hF => ?_)
                refine vc_nil ?_
                refine hK42 _ _ ?_; clear  hK42 K42
                refine vc_falseB hF rfl (eql_f (by omega)) ?_
                refine wp_region_lit ?_
                refine vc_y hF rfl rfl (by decide) _ (y_cmp rfl rfl rfl rfl rfl) (fun a hF => ?_)
                refine vc_y hF rfl rfl (by decide) _ (y_assign rfl rfl) (fun a hF => ?_)
                refine vc_nil ?_
                refine hK41 _ _ ?_; clear  hK41 K41
                refine vc_falseB hF rfl (eql_f (by omega)) ?_
                apply wp_seq_k; intro K43 hK43
                refine wp_region_lit ?_
                refine vc_y hF rfl rfl (by decide) _ (y_cmp rfl rfl rfl rfl rfl) (fun a hF => ?_)
                refine vc_y hF rfl rfl (by decide) _ (y_assign rfl rfl) (fun a hF => ?_)
                refine vc_nil ?_
                refine hK43 _ _ ?_; clear  hK43 K43
                refine vc_trueB hF rfl (eql_t (by omega)) ?_
                apply wp_seq_k; intro K44 hK44
                apply wp_seq_k; intro K45 hK45
                refine wp_region_lit ?_
                refine vc_y hF rfl rfl (by decide) _ (y_assign rfl rfl) (fun a hF => ?_)
                refine vc_nil ?_
                refine hK45 _ _ ?_; clear  hK45 K45
                apply wp_block
                refine vc_loop (G := Nat) (fun i a x => 1 ≤ i ∧ (i = 1 ∨ i ≤ va.v.s.length) ∧ risesTo va.v.s i = true ∧ Fr 68 [(3, .int .i64 (i : Int)), (1, .pointer (some ⟨b1, 0, none⟩))] a ∧ Hp w0 ([row b1 25 [.int .i64 va.v.k, .int .i64 va.v.n, strV va.v.t, .slice va.sA va.v.s.length va.sC]] :: R) x) (fun i => va.v.s.length - i) 1 (⟨Nat.le_refl _, .inl rfl, rfl, hF.keep [3, 1] rfl, hA3⟩) ?_
                clear hF
                rintro i a w10 ⟨hi1, hi, hr, hF, hA9⟩
                apply wp_seq_k; intro K46 hK46
                apply wp_seq_k; intro K47 hK47
                refine wp_region_lit ?_
                refine vc_y hF rfl rfl (by decide) _ (y_move rfl rfl) (fun a hF => ?_)
                refine vc_y hF rfl rfl (by decide) _ (y_field rfl Tryz.underlying25 rfl sz23_v2 (by decide) rfl (rfl : (⟨_, 0 + _, none⟩ : Addr) = ⟨_, 3, none⟩)) (fun a hF => ?_)
                refine vc_y hF rfl rfl (by decide) _ (y_ld rfl hA9.q rfl 0 rfl rfl nr23_v2) (fun a hF => ?_)
                refine vc_y hF rfl rfl (by decide) _ (y_lenSl rfl Tryz.underlying23 rfl rfl) (fun a hF => ?_)
                refine vc_y hF rfl rfl (by decide) _ (y_cmp rfl rfl rfl rfl rfl) (fun a hF => ?_)
                refine vc_nil ?_
                refine hK47 _ _ ?_; clear  hK47 K47
                by_cases hlt : i < va.v.s.length
                · refine vc_trueB hF rfl (lss_t (by omega)) ?_
                  obtain ⟨q, hp⟩ : ∃ q, va.v.s[i]? = some q := ⟨_, List.getElem?_eq_getElem hlt⟩
                  obtain ⟨q0, hp0⟩ : ∃ q, va.v.s[i - 1]? = some q := ⟨_, List.getElem?_eq_getElem (by omega)⟩
                  obtain ⟨b, o, hsA, hc⟩ := hV.rc.ne (i := i) (by rw [List.length_map]; exact hlt)
                  rw [hsA] at hA9
                  apply wp_skip
                  refine hK46 _ _ ?_; clear  hK46 K46
                  apply wp_seq_k; intro K48 hK48
                  apply wp_block
                  apply wp_seq_k; intro K49 hK49
                  refine wp_region_plan 11 [11] [0,1,2,3,4,5,6,7,8,9,10,11] (fun x => Hq w0 ([row b1 25 [.int .i64 va.v.k, .int .i64 va.v.n, strV va.v.t, .slice (some ⟨b, o, none⟩) va.v.s.length va.sC]] :: R) x) (by kernel_rfl) (by kernel_rfl) (Hq.drew (Hp.qp [[row b1 25 [.int .i64 va.v.k, .int .i64 va.v.n, strV va.v.t, .slice (some ⟨b, o, none⟩) va.v.s.length va.sC]]] R [0] hA9)) ?_
                  have hA11 := Hl.drew hA9
                  refine vp_y hF rfl rfl rfl rfl (by decide) _ (fun x hx => y_field rfl Tryz.underlying25 rfl sz23_v2 (by decide) rfl (rfl : (⟨_, 0 + _, none⟩ : Addr) = ⟨_, 3, none⟩)) (fun a hF => ?_)
                  refine vp_y hF rfl rfl rfl rfl (by decide) _ (fun x hx => y_ld rfl hx rfl 0 rfl rfl nr23_v2) (fun a hF => ?_)
                  refine vp_y hF rfl rfl rfl rfl (by decide) _ (fun x hx => y_move rfl rfl) (fun a hF => ?_)
                  refine vp_y hF rfl rfl rfl rfl (by decide) _ (fun x hx => y_sub rfl rfl rfl (IntWalk.i64_in _ (by omega))) (fun a hF => ?_)
                  refine vp_y hF rfl rfl rfl rfl (by decide) _ (fun x hx => y_ixSl rfl Tryz.underlying23 sz9_v2 rfl rfl (i - 1) (by omega) (by omega) (ad2 _ _ _)) (fun a hF => ?_)
                  refine vp_y hF rfl rfl rfl rfl (by decide) _ (fun x hx => y_ldC (u := strV q0) rfl (Hq.sub hx (List.Subset.trans hG ((subC (sub0))))) rfl hc (i - 1) (by rw [List.length_map]; omega) rfl (by rw [List.getElem?_map, hp0]; rfl) nr9_v2) (fun a hF => ?_)
                  refine vp_y hF rfl rfl rfl rfl (by decide) _ (fun x hx => y_field rfl Tryz.underlying25 rfl sz23_v2 (by decide) rfl (rfl : (⟨_, 0 + _, none⟩ : Addr) = ⟨_, 3, none⟩)) (fun a hF => ?_)
                  refine vp_y hF rfl rfl rfl rfl (by decide) _ (fun x hx => y_ld rfl hx rfl 0 rfl rfl nr23_v2) (fun a hF => ?_)
                  refine vp_y hF rfl rfl rfl rfl (by decide) _ (fun x hx => y_move rfl rfl) (fun a hF => ?_)
                  refine vp_y hF rfl rfl rfl rfl (by decide) _ (fun x hx => y_ixSl rfl Tryz.underlying23 sz9_v2 rfl rfl i rfl (by omega) (ad2 _ _ _)) (fun a hF => ?_)
                  refine vp_y hF rfl rfl rfl rfl (by decide) _ (fun x hx => y_ldC (u := strV q) rfl (Hq.sub hx (List.Subset.trans hG ((subC (sub0))))) rfl hc i (by rw [List.length_map]; omega) rfl (by rw [List.getElem?_map, hp]; rfl) nr9_v2) (fun a hF => ?_)
                  refine vp_ly hF rfl rfl rfl rfl (by decide) _ (y_cmpS rfl rfl rfl rfl rfl) (fun h => absurd h (by decide)) (fun a hF => ?_)
                  refine plan_end ?_
                  refine hK49 _ _ ?_; clear  hK49 K49
                  rcases tf (strB .geq q0 q) with hge | hge
                  · refine vc_falseB hF rfl hge ?_
                    apply wp_skip
                    refine hK48 _ _ ?_; clear  hK48 K48
                    refine wp_region_lit ?_
                    refine vc_y hF rfl rfl (by decide) _ (y_move rfl rfl) (fun a hF => ?_)
                    refine vc_y hF rfl rfl (by decide) _ (y_add rfl rfl rfl (IntWalk.i64_in _ (by omega))) (fun a hF => ?_)
                    refine vc_y hF rfl rfl (by decide) _ (y_assign rfl rfl) (fun a hF => ?_)
                    refine vc_nil ?_
                    rw [← hsA] at hA11
                    exact ⟨i + 1, by omega, by omega, .inr (by omega), rises_up hi1 hp0 hp hr hge, hF.keep [3, 1] rfl, hA11⟩
                  · refine vc_trueB hF rfl hge ?_
                    apply wp_seq_k; intro K50 hK50
                    refine wp_region_lit ?_
                    refine vc_y hF rfl rfl (by decide) _ (y_assign rfl rfl) (fun a hF => ?_)
                    refine vc_nil ?_
                    refine hK50 _ _ ?_; clear  hK50 K50
                    apply wp_ret
                    simp only [Exit.then, Exit.inBlock]
                    refine vc_ret1 hF Tryz.results153 rfl ?_
                    have hA12 : Hp w0 (R) w10.drew := Hp.sel [[row b1 25 [.int .i64 va.v.k, .int .i64 va.v.n, strV va.v.t, .slice (some ⟨b, o, none⟩) va.v.s.length va.sC]]] R [] [0] hA11 rfl
                    exact ⟨by rw [formed_5 hh hk5, rises_no hi1 hlt hp0 hp hge, Bool.false_and], hA12⟩
                · refine vc_falseB hF rfl (lss_f (by omega)) ?_
                  apply wp_exit
                  refine hK44 _ _ ?_; clear hK46 K46 hK44 K44
                  apply wp_seq_k; intro K51 hK51
                  refine wp_region_lit ?_
                  refine vc_y hF rfl rfl (by decide) _ (y_field rfl Tryz.underlying25 rfl sz3_v2 (by decide) rfl (rfl : (⟨_, 0 + _, none⟩ : Addr) = ⟨_, 1, none⟩)) (fun a hF => ?_)
                  refine vc_y hF rfl rfl (by decide) _ (y_ld rfl hA9.q rfl 0 rfl rfl nr3_v2) (fun a hF => ?_)
                  refine vc_y hF rfl rfl (by decide) _ (y_cmp rfl rfl rfl rfl rfl) (fun a hF => ?_)
                  refine vc_y hF rfl rfl (by decide) _ (y_assign rfl rfl) (fun a hF => ?_)
                  refine vc_nil ?_
                  refine hK51 _ _ ?_; clear  hK51 K51
                  apply wp_ret
                  simp only [Exit.then, Exit.inBlock]
                  refine vc_ret1 hF Tryz.results153 rfl ?_
                  have hA13 : Hp w0 (R) w10 := Hp.sel [[row b1 25 [.int .i64 va.v.k, .int .i64 va.v.n, strV va.v.t, .slice va.sA va.v.s.length va.sC]]] R [] [0] hA9 rfl
                  exact ⟨by rw [formed_5 hh hk5, rises_end hi1 hi hlt hr, Bool.true_and], hA13⟩
              · apply wp_skip
                refine hK2 _ _ ?_; clear  hK2 K2
                apply wp_seq_k; intro K52 hK52
                apply wp_seq_k; intro K53 hK53
                refine wp_region_lit ?_
                refine vc_y hF rfl rfl (by decide) _ (y_field rfl Tryz.underlying25 rfl sz22_v2 (by decide) rfl (rfl : (⟨_, 0 + _, none⟩ : Addr) = ⟨_, 0, none⟩)) (fun a hF => ?_)
                refine vc_y hF rfl rfl (by decide) _ (y_ld rfl hA3.q rfl 0 rfl rfl nr22_v2) (fun a hF => ?_)
                refine vc_nil ?_
                refine hK53 _ _ ?_; clear  hK53 K53
                apply wp_block
                apply wp_seq_k; intro K54 hK54
                apply wp_seq_k; intro K55 hK55
                refine wp_region_lit ?_
                refine vc_y hF rfl rfl (by decide) _ (y_cmp rfl rfl rfl rfl rfl) (fun a hF => ?_)
                refine vc_y hF rfl rfl (by decide) _ (y_assign rfl rfl) (fun a hF => ?_)
                refine vc_nil ?_
                refine hK55 _ _ ?_; clear  hK55 K55
                refine vc_falseB hF rfl (eql_f (by omega)) ?_
                refine wp_region_lit ?_
                refine vc_y hF rfl rfl (by decide) _ (y_cmp rfl rfl rfl rfl rfl) (fun a hF => ?_)
                refine vc_y hF rfl rfl (by decide) _ (y_assign rfl rfl) (fun a hF => ?_)
                refine vc_nil ?_
                refine hK54 _ _ ?_; clear  hK54 K54
                refine vc_falseB hF rfl (eql_f (by omega)) ?_
                apply wp_seq_k; intro K56 hK56
                refine wp_region_lit ?_
                refine vc_y hF rfl rfl (by decide) _ (y_cmp rfl rfl rfl rfl rfl) (fun a hF => ?_)
                refine vc_y hF rfl rfl (by decide) _ (y_assign rfl rfl) (fun a hF => ?_)
                refine vc_nil ?_
                refine hK56 _ _ ?_; clear  hK56 K56
                refine vc_falseB hF rfl (eql_f (by omega)) ?_
                apply wp_seq_k; intro K57 hK57
                apply wp_seq_k; intro K58 hK58
                refine wp_region_lit ?_
                refine vc_y hF rfl rfl (by decide) _ (y_cmp rfl rfl rfl rfl rfl) (fun a hF => ?_)
                refine vc_y hF rfl rfl (by decide) _ (y_assign rfl rfl) (fun a hF => ?_)
                refine vc_nil ?_
                refine hK58 _ _ ?_; clear  hK58 K58
                refine vc_falseB hF rfl (eql_f (by omega)) ?_
                refine wp_region_lit ?_
                refine vc_y hF rfl rfl (by decide) _ (y_cmp rfl rfl rfl rfl rfl) (fun a hF => ?_)
                refine vc_y hF rfl rfl (by decide) _ (y_assign rfl rfl) (fun a hF => ?_)
                refine vc_nil ?_
                refine hK57 _ _ ?_; clear  hK57 K57
                refine vc_falseB hF rfl (eql_f (by omega)) ?_
                apply wp_seq_k; intro K59 hK59
                refine wp_region_lit ?_
                refine vc_y hF rfl rfl (by decide) _ (y_cmp rfl rfl rfl rfl rfl) (fun a hF => ?_)
                refine vc_y hF rfl rfl (by decide) _ (y_assign rfl rfl) (fun a hF => ?_)
                refine vc_nil ?_
                refine hK59 _ _ ?_; clear  hK59 K59
                refine vc_falseB hF rfl (eql_f (by omega)) ?_
                apply wp_skip
                refine hK52 _ _ ?_; clear  hK52 K52
                apply wp_seq_k; intro K60 hK60
                refine wp_region_lit ?_
                refine vc_y hF rfl rfl (by decide) _ (y_assign rfl rfl) (fun a hF => ?_)
                refine vc_nil ?_
                refine hK60 _ _ ?_; clear  hK60 K60
                apply wp_ret
                refine vc_ret1 hF Tryz.results153 rfl ?_
                have hA14 : Hp w0 (R) w2 := Hp.sel [[row b1 25 [.int .i64 va.v.k, .int .i64 va.v.n, strV va.v.t, .slice va.sA va.v.s.length va.sC]]] R [] [0] hA3 rfl
                exact ⟨by rw [formed_x hh hk1 hk4 hk2 hk0 hk3 hk5], hA14⟩
  · refine vc_trueB hF rfl hs ?_
    apply wp_seq_k; intro K61 hK61
    refine wp_region_lit ?_
    refine vc_y hF rfl rfl (by decide) _ (y_assign rfl rfl) (fun a hF => ?_)
    refine vc_nil ?_
    refine hK61 _ _ ?_; clear  hK61 K61
    apply wp_ret
    simp only [Exit.then]
    refine vc_ret1 hF Tryz.results153 rfl ?_
    have hA15 : Hp w0 (R) w2 := Hp.sel [[row b1 25 [.int .i64 va.v.k, .int .i64 va.v.n, strV va.v.t, .slice va.sA va.v.s.length va.sC]]] R [] [0] hA3 rfl
    exact ⟨by rw [formed_no hs], hA15⟩
theorem longT_eq (s : List UInt8) : cmpB .gtr ((s.length : Nat) : Int) 1024 = longT s := by
  unfold cmpB longT
  rw [Bool.eq_iff_iff]
  simp only [decide_eq_true_eq]
  omega

set_option maxRecDepth 100000 in
set_option maxHeartbeats 2000000 in
theorem ev_long (s : List UInt8) (w : World) : Calls Tryz.prog 156 #[strV s] w fun e w' => e = .returned (.bool (longT s)) ∧ w = w' := by
  refine vc_enter Tryz.func156 rfl Tryz.ntmps156 (Nat.le_of_ble_eq_true rfl) (fun a hF => ?_)
  apply wp_seq_k; intro K1 hK1
  refine wp_region_lit ?_
  refine vc_y hF rfl rfl (by decide) _ (y_assign rfl rfl) (fun a hF => ?_)
  refine vc_nil ?_
  refine hK1 _ _ ?_; clear  hK1 K1
  apply wp_seq_k; intro K2 hK2
  refine wp_region_lit ?_
  refine vc_y hF rfl rfl (by decide) _ (y_move rfl rfl) (fun a hF => ?_)
  refine vc_y hF rfl rfl (by decide) _ (y_lenStr (z := (s.length : Nat)) rfl Tryz.underlying9 rfl rfl) (fun a hF => ?_)
  refine vc_y hF rfl rfl (by decide) _ (y_cmp rfl rfl rfl rfl rfl) (fun a hF => ?_)
  refine vc_y hF rfl rfl (by decide) _ (y_assign rfl rfl) (fun a hF => ?_)
  refine vc_nil ?_
  refine hK2 _ _ ?_; clear  hK2 K2
  apply wp_ret
  refine vc_ret1 hF Tryz.results156 rfl ?_
  exact ⟨by rw [longT_eq], rfl⟩
theorem any_take {s : List (List UInt8)} {i : Nat} {q : List UInt8} {p : List UInt8 → Bool} (hb : s[i]? = some q) (h : (s.take i).any p = false) (hp : p q = false) : (s.take (i + 1)).any p = false := by
  rw [List.take_add_one, hb, List.any_append, h]
  simp [hp]

set_option maxRecDepth 100000 in
set_option maxHeartbeats 2000000 in
theorem ev_index {w0 : World} {R : List Seg} {G : List Seg} (va : VA) (w : World) (hV : va.Ok w0 G) (hG : G ⊆ R) (hA : Hp w0 R w) : Calls Tryz.prog 192 #[.slice va.sA va.v.s.length va.sC, .func (.func 156) #[] #[]] w fun e w' => ∃ z : Int, e = .returned (.int .i64 z) ∧ decide (0 ≤ z) = va.v.s.any longT ∧ w = w' := by
  have hn := hV.n
  refine vc_enter Tryz.func192 rfl Tryz.ntmps192 (Nat.le_of_ble_eq_true rfl) (fun a hF => ?_)
  apply wp_seq_k; intro K1 hK1
  refine wp_region_lit ?_
  refine vc_y hF rfl rfl (by decide) _ (y_assign rfl rfl) (fun a hF => ?_)
  refine vc_nil ?_
  refine hK1 _ _ ?_; clear  hK1 K1
  apply wp_seq_k; intro K2 hK2
  apply wp_seq_k; intro K3 hK3
  refine wp_region_lit ?_
  refine vc_y hF rfl rfl (by decide) _ (y_move rfl rfl) (fun a hF => ?_)
  refine vc_y hF rfl rfl (by decide) _ (y_lenSl rfl Tryz.underlying23 rfl rfl) (fun a hF => ?_)
  refine vc_y hF rfl rfl (by decide) _ (y_move rfl rfl) (fun a hF => ?_)
  refine vc_nil ?_
  refine hK3 _ _ ?_; clear  hK3 K3
  apply wp_block
  refine vc_loop (G := Nat) (fun i a x => i ≤ va.v.s.length ∧ (va.v.s.take i).any longT = false ∧ w = x ∧ Fr 19 [(8, .int .i64 (i : Int)), (0, .slice va.sA va.v.s.length va.sC), (1, .func (.func 156) #[] #[]), (7, .int .i64 va.v.s.length)] a ∧ Hp w0 (R) x) (fun i => va.v.s.length - i) 0 (⟨Nat.zero_le _, rfl, rfl, hF.keep [8, 0, 1, 7] rfl, hA⟩) ?_
  clear hF
  rintro i a w2 ⟨hi, hall, hww, hF, hA1⟩
  apply wp_seq_k; intro K4 hK4
  refine wp_region_lit ?_
  refine vc_y hF rfl rfl (by decide) _ (y_cmp rfl rfl rfl rfl rfl) (fun a hF => ?_)
  refine vc_nil ?_
  refine hK4 _ _ ?_; clear  hK4 K4
  apply wp_seq_k; intro K5 hK5
  by_cases hlt : i < va.v.s.length
  · refine vc_trueB hF rfl (lss_t (by omega)) ?_
    obtain ⟨q, hp⟩ : ∃ q, va.v.s[i]? = some q := ⟨_, List.getElem?_eq_getElem hlt⟩
    obtain ⟨b, o, hsA, hc⟩ := hV.rc.ne (i := i) (by rw [List.length_map]; exact hlt)
    rw [hsA] at hF
    apply wp_skip
    refine hK5 _ _ ?_; clear  hK5 K5
    apply wp_seq_k; intro K6 hK6
    apply wp_block
    apply wp_seq_k; intro K7 hK7
    refine wp_region_lit ?_
    refine vc_y hF rfl rfl (by decide) _ (y_move rfl rfl) (fun a hF => ?_)
    refine vc_y hF rfl rfl (by decide) _ (y_assign rfl rfl) (fun a hF => ?_)
    refine vc_nil ?_
    refine hK7 _ _ ?_; clear  hK7 K7
    apply wp_seq_k; intro K8 hK8
    refine wp_region_lit ?_
    refine vc_y hF rfl rfl (by decide) _ (y_move rfl rfl) (fun a hF => ?_)
    refine vc_y hF rfl rfl (by decide) _ (y_move rfl rfl) (fun a hF => ?_)
    refine vc_y hF rfl rfl (by decide) _ (y_move rfl rfl) (fun a hF => ?_)
    refine vc_y hF rfl rfl (by decide) _ (y_ixSl rfl Tryz.underlying23 sz9_v2 rfl rfl i rfl (by omega) (ad2 _ _ _)) (fun a hF => ?_)
    refine vc_y hF rfl rfl (by decide) _ (y_ldC (u := strV q) rfl (Hq.sub hA1.q (List.Subset.trans hG ((sub0)))) rfl hc i (by rw [List.length_map]; omega) rfl (by rw [List.getElem?_map, hp]; rfl) nr9_v2) (fun a hF => ?_)
    refine vc_op rfl (fun K hK => ws_callV hF rfl (by decide) cl156_v2 rfl rfl rfl ?_)
    with_reducible refine (ev_long q _ ).mono ?_
    rintro e' w5 ⟨rfl, rfl⟩
    refine ⟨_, rfl, fun a hF => hK _ _ ?_⟩
    clear hK K
    refine vc_nil ?_
    refine hK8 _ _ ?_; clear  hK8 K8
    rcases tf (longT q) with hw | hw
    · refine vc_falseB hF rfl hw ?_
      apply wp_skip
      refine hK6 _ _ ?_; clear  hK6 K6
      refine wp_region_lit ?_
      refine vc_y hF rfl rfl (by decide) _ (y_add rfl rfl rfl (IntWalk.i64_in _ (by omega))) (fun a hF => ?_)
      refine vc_y hF rfl rfl (by decide) _ (y_move rfl rfl) (fun a hF => ?_)
      refine vc_nil ?_
      rw [← hsA] at hF
      exact ⟨i + 1, by omega, by omega, any_take hp hall hw, hww, hF.keep [8, 0, 1, 7] rfl, hA1⟩
    · refine vc_trueB hF rfl hw ?_
      apply wp_seq_k; intro K9 hK9
      refine wp_region_lit ?_
      refine vc_y hF rfl rfl (by decide) _ (y_move rfl rfl) (fun a hF => ?_)
      refine vc_y hF rfl rfl (by decide) _ (y_assign rfl rfl) (fun a hF => ?_)
      refine vc_nil ?_
      refine hK9 _ _ ?_; clear  hK9 K9
      apply wp_ret
      simp only [Exit.then, Exit.inBlock]
      refine vc_ret1 hF Tryz.results192 rfl ?_
      exact ⟨_, rfl, by rw [show va.v.s.any longT = true from List.any_eq_true.2 ⟨q, List.mem_of_getElem? hp, hw⟩]; simp, hww⟩
  · refine vc_falseB hF rfl (lss_f (by omega)) ?_
    obtain rfl : i = va.v.s.length := by omega
    rw [List.take_length] at hall
    apply wp_exit
    refine hK2 _ _ ?_; clear hK5 K5 hK2 K2
    apply wp_seq_k; intro K10 hK10
    refine wp_region_lit ?_
    refine vc_y hF rfl rfl (by decide) _ (y_assign rfl rfl) (fun a hF => ?_)
    refine vc_nil ?_
    refine hK10 _ _ ?_; clear  hK10 K10
    apply wp_ret
    refine vc_ret1 hF Tryz.results192 rfl ?_
    exact ⟨_, rfl, by rw [hall]; decide, hww⟩

set_option maxRecDepth 100000 in
set_option maxHeartbeats 2000000 in
theorem ev_contains {w0 : World} {R : List Seg} {G : List Seg} (va : VA) (w : World) (hV : va.Ok w0 G) (hG : G ⊆ R) (hA : Hp w0 R w) : Calls Tryz.prog 155 #[.slice va.sA va.v.s.length va.sC, .func (.func 156) #[] #[]] w fun e w' => e = .returned (.bool (va.v.s.any longT)) ∧ w = w' := by
  refine vc_enter Tryz.func155 rfl Tryz.ntmps155 (Nat.le_of_ble_eq_true rfl) (fun a hF => ?_)
  apply wp_seq_k; intro K1 hK1
  refine wp_region_lit ?_
  refine vc_y hF rfl rfl (by decide) _ (y_assign rfl rfl) (fun a hF => ?_)
  refine vc_nil ?_
  refine hK1 _ _ ?_; clear  hK1 K1
  apply wp_seq_k; intro K2 hK2
  refine wp_region_lit ?_
  refine vc_y hF rfl rfl (by decide) _ (y_move rfl rfl) (fun a hF => ?_)
  refine vc_y hF rfl rfl (by decide) _ (y_move rfl rfl) (fun a hF => ?_)
  refine vc_op rfl (fun K hK => ws_call hF rfl (by decide) cl192_v2 rfl rfl ?_)
  with_reducible refine (ev_index va _ hV hG hA ).mono ?_
  rintro e' w3 ⟨z, rfl, hz, rfl⟩
  refine ⟨_, rfl, fun a hF => hK _ _ ?_⟩
  clear hK K
  refine vc_y hF rfl rfl (by decide) _ (y_cmp rfl rfl rfl rfl rfl) (fun a hF => ?_)
  refine vc_y hF rfl rfl (by decide) _ (y_assign rfl rfl) (fun a hF => ?_)
  refine vc_nil ?_
  refine hK2 _ _ ?_; clear  hK2 K2
  apply wp_ret
  refine vc_ret1 hF Tryz.results155 rfl ?_
  exact ⟨by rw [← hz]; rfl, rfl⟩
theorem right_c1 {v : Val} : (cmpB .eql v.k 4 && !(cmpB .geq v.n 0 && cmpB .leq v.n 4611686018427387904)) = true ↔ v.k = 4 ∧ ¬ (0 ≤ v.n ∧ v.n ≤ 4611686018427387904) := by
  unfold cmpB
  simp only [Bool.and_eq_true, Bool.not_eq_true', Bool.and_eq_false_iff, decide_eq_true_eq, decide_eq_false_iff_not, beq_iff_eq]
  omega
theorem right_c2 {v : Val} : (cmpB .gtr ((v.t.length : Nat) : Int) 1024 || v.s.any longT) = true ↔ 1024 < v.t.length ∨ v.s.any longT = true := by
  rw [Bool.or_eq_true]
  refine or_congr ?_ Iff.rfl
  unfold cmpB
  simp only [decide_eq_true_eq]
  omega
theorem right_c3 {v : Val} : cmpB .gtr ((v.s.length : Nat) : Int) 64 = true ↔ 64 < v.s.length := by
  unfold cmpB
  simp only [decide_eq_true_eq]
  omega
theorem right_0 {v : Val} (h0 : (!(v.formed)) = true) : v.right = 8 := by
  unfold Val.right
  rw [if_pos (by simpa using h0)]
theorem right_1 {v : Val} (h0 : (!(v.formed)) = false) (h1 : (cmpB .eql v.k 4 && !(cmpB .geq v.n 0 && cmpB .leq v.n 4611686018427387904)) = true) : v.right = 111 := by
  unfold Val.right
  rw [if_neg (by simpa using h0), if_pos (right_c1.1 h1)]
theorem right_2 {v : Val} (h0 : (!(v.formed)) = false) (h1 : (cmpB .eql v.k 4 && !(cmpB .geq v.n 0 && cmpB .leq v.n 4611686018427387904)) = false) (h2 : (cmpB .gtr ((v.t.length : Nat) : Int) 1024 || v.s.any longT) = true) : v.right = 113 := by
  unfold Val.right
  rw [if_neg (by simpa using h0), if_neg (fun h => by rw [right_c1.2 h] at h1; exact absurd h1 (by decide)), if_pos (right_c2.1 h2)]
theorem right_3 {v : Val} (h0 : (!(v.formed)) = false) (h1 : (cmpB .eql v.k 4 && !(cmpB .geq v.n 0 && cmpB .leq v.n 4611686018427387904)) = false) (h2 : (cmpB .gtr ((v.t.length : Nat) : Int) 1024 || v.s.any longT) = false) (h3 : cmpB .gtr ((v.s.length : Nat) : Int) 64 = true) : v.right = 114 := by
  unfold Val.right
  rw [if_neg (by simpa using h0), if_neg (fun h => by rw [right_c1.2 h] at h1; exact absurd h1 (by decide)), if_neg (fun h => by rw [right_c2.2 h] at h2; exact absurd h2 (by decide)), if_pos (right_c3.1 h3)]
theorem right_ok {v : Val} (h0 : (!(v.formed)) = false) (h1 : (cmpB .eql v.k 4 && !(cmpB .geq v.n 0 && cmpB .leq v.n 4611686018427387904)) = false) (h2 : (cmpB .gtr ((v.t.length : Nat) : Int) 1024 || v.s.any longT) = false) (h3 : cmpB .gtr ((v.s.length : Nat) : Int) 64 = false) : v.right = 0 := by
  unfold Val.right
  rw [if_neg (by simpa using h0), if_neg (fun h => by rw [right_c1.2 h] at h1; exact absurd h1 (by decide)), if_neg (fun h => by rw [right_c2.2 h] at h2; exact absurd h2 (by decide)), if_neg (fun h => by rw [right_c3.2 h] at h3; exact absurd h3 (by decide))]

set_option maxRecDepth 100000 in
set_option maxHeartbeats 2000000 in
theorem ev_right {w0 : World} {R : List Seg} {G : List Seg} (va : VA) (w : World) (hV : va.Ok w0 G) (hG : G ⊆ R) (hA : Hp w0 R w) : Calls Tryz.prog 101 #[.agg va.cells.toArray] w fun e w' => e = .returned (.int .i64 (va.v.right : Nat)) ∧ Hp w0 R w' := by
  have hn := hV.n
  refine vc_enter Tryz.func101 rfl Tryz.ntmps101 (Nat.le_of_ble_eq_true rfl) (fun a hF => ?_)
  apply wp_seq_k; intro K1 hK1
  refine wp_region_lit ?_
  refine vc_op rfl (fun K hK => hs_box (cs := [.int .i64 va.v.k, .int .i64 va.v.n, strV va.v.t, .slice va.sA va.v.s.length va.sC]) hF rfl (by decide) rfl hA rfl (fun b1 w2 a hb1 hF hA3 => hK _ _ ?_))
  clear hK K
  replace hA3 : Hp w0 ([row b1 25 [.int .i64 va.v.k, .int .i64 va.v.n, strV va.v.t, .slice va.sA va.v.s.length va.sC]] :: R) w2 := hA3
  refine vc_y hF rfl rfl (by decide) _ (y_assign rfl rfl) (fun a hF => ?_)
  refine vc_nil ?_
  refine hK1 _ _ ?_; clear  hK1 K1
  apply wp_seq_k; intro K2 hK2
  apply wp_block
  apply wp_seq_k; intro K3 hK3
  refine wp_region_lit ?_
  refine vc_y hF rfl rfl (by decide) _ (y_ldRow (new := [.int .i64 va.v.k, .int .i64 va.v.n, strV va.v.t, .slice va.sA va.v.s.length va.sC]) rfl hA3.q rfl 0 rfl rw25_v2 (Nat.le_of_ble_eq_true rfl) rfl) (fun a hF => ?_)
  refine vc_op rfl (fun K hK => ws_call hF rfl (by decide) cl153_v2 rfl rfl ?_)
  with_reducible refine (ev_formed va _ hV (List.Subset.trans hG (subC (sub0))) hA3 ).mono ?_
  rintro e' w4 ⟨rfl, hA5⟩
  refine ⟨_, rfl, fun a hF => hK _ _ ?_⟩
  clear hK K
  replace hA5 : Hp w0 ([row b1 25 [.int .i64 va.v.k, .int .i64 va.v.n, strV va.v.t, .slice va.sA va.v.s.length va.sC]] :: R) w4 := hA5
  refine vc_y hF rfl rfl (by decide) _ (y_not rfl rfl rfl) (fun a hF => ?_)
  refine vc_y hF rfl rfl (by decide) _ (y_assign rfl rfl) (fun a hF => ?_)
  refine vc_nil ?_
  refine hK3 _ _ ?_; clear  hK3 K3
  rcases tf (!va.v.formed) with hq0 | hq0
  · refine vc_falseB hF rfl hq0 ?_
    apply wp_seq_k; intro K4 hK4
    refine wp_region_lit ?_
    refine vc_y hF rfl rfl (by decide) _ (y_field rfl Tryz.underlying25 rfl sz22_v2 (by decide) rfl (rfl : (⟨_, 0 + _, none⟩ : Addr) = ⟨_, 0, none⟩)) (fun a hF => ?_)
    refine vc_y hF rfl rfl (by decide) _ (y_ld rfl hA5.q rfl 0 rfl rfl nr22_v2) (fun a hF => ?_)
    refine vc_y hF rfl rfl (by decide) _ (y_cmp rfl rfl rfl rfl rfl) (fun a hF => ?_)
    refine vc_y hF rfl rfl (by decide) _ (y_move rfl rfl) (fun a hF => ?_)
    refine vc_meet (l2 := ?lA1) hF [(16, .bool ((cmpB .eql (va.v.k) (4)) && (!(cmpB .geq va.v.n 0 && cmpB .leq va.v.n 4611686018427387904)))), (0, .agg ([.int .i64 va.v.k, .int .i64 va.v.n, strV va.v.t, .slice va.sA va.v.s.length va.sC]).toArray), (1, .pointer (some ⟨b1, 0, none⟩)), (2, .int .i64 0), (4, .agg ([.int .i64 va.v.k, .int .i64 va.v.n, strV va.v.t, .slice va.sA va.v.s.length va.sC]).toArray), (5, .bool va.v.formed), (6, .bool (!va.v.formed)), (3, .bool (!va.v.formed))] (fun hJ1 => ?elA1) (fun a hF => ?flA1)
    case elA1 =>
      rcases tf (cmpB .eql (va.v.k) (4)) with hg1 | hg1
      · refine vc_skip hF rfl rfl rfl rfl rfl (ne_want hg1) (by decide) (fun a hF => ?_)
        refine vc_skip hF rfl rfl rfl rfl rfl (ne_want hg1) (by decide) (fun a hF => ?_)
        refine vc_skip hF rfl rfl rfl rfl rfl (ne_want hg1) (by decide) (fun a hF => ?_)
        refine vc_skip hF rfl rfl rfl rfl rfl (ne_want hg1) (by decide) (fun a hF => ?_)
        refine vc_y hF rfl rfl (by decide) _ (y_pickF hg1 rfl rfl rfl) (fun a hF => ?_)
        exact hJ1 _ ((hF.keep [16, 0, 1, 2, 4, 5, 6, 3] (F' := [(16, _), (0, _), (1, _), (2, _), (4, _), (5, _), (6, _), (3, _)]) rfl).bool (by rw [hg1]; rfl))
      · refine vc_yg hF rfl rfl rfl rfl (some_bool hg1) (by decide) _ (y_field rfl Tryz.underlying25 rfl sz3_v2 (by decide) rfl (rfl : (⟨_, 0 + _, none⟩ : Addr) = ⟨_, 1, none⟩)) (fun a hF => ?_)
        refine vc_yg hF rfl rfl rfl rfl (some_bool hg1) (by decide) _ (y_ld rfl hA5.q rfl 0 rfl rfl nr3_v2) (fun a hF => ?_)
        refine vc_opg hF rfl rfl rfl (some_bool hg1) (fun K hK => ws_call hF rfl (by decide) cl154_v2 rfl rfl ?_)
        with_reducible refine (ev_timely va.v.n _ ).mono ?_
        rintro e' w8 ⟨rfl, rfl⟩
        refine ⟨_, rfl, fun a hF => hK _ _ ?_⟩
        clear hK K
        refine vc_yg hF rfl rfl rfl rfl (some_bool hg1) (by decide) _ (y_not rfl rfl rfl) (fun a hF => ?_)
        refine vc_y hF rfl rfl (by decide) _ (y_pickT hg1 rfl rfl rfl) (fun a hF => ?_)
        exact hJ1 _ ((hF.keep [16, 0, 1, 2, 4, 5, 6, 3] (F' := [(16, _), (0, _), (1, _), (2, _), (4, _), (5, _), (6, _), (3, _)]) rfl).bool (by rw [hg1]; rfl))
    refine vc_y hF rfl rfl (by decide) _ (y_assign rfl rfl) (fun a hF => ?_)
    refine vc_nil ?_
    refine hK4 _ _ ?_; clear  hK4 K4
    rcases tf ((cmpB .eql (va.v.k) (4)) && (!(cmpB .geq va.v.n 0 && cmpB .leq va.v.n 4611686018427387904))) with hq1 | hq1
    · refine vc_falseB hF rfl hq1 ?_
      apply wp_seq_k; intro K5 hK5
      refine wp_region_lit ?_
      refine vc_y hF rfl rfl (by decide) _ (y_field rfl Tryz.underlying25 rfl sz9_v2 (by decide) rfl (rfl : (⟨_, 0 + _, none⟩ : Addr) = ⟨_, 2, none⟩)) (fun a hF => ?_)
      refine vc_y hF rfl rfl (by decide) _ (y_ld rfl hA5.q rfl 0 rfl rfl nr9_v2) (fun a hF => ?_)
      refine vc_y hF rfl rfl (by decide) _ (y_lenStr (z := (va.v.t.length : Nat)) rfl Tryz.underlying9 rfl rfl) (fun a hF => ?_)
      refine vc_y hF rfl rfl (by decide) _ (y_cmp rfl rfl rfl rfl rfl) (fun a hF => ?_)
      refine vc_y hF rfl rfl (by decide) _ (y_move rfl rfl) (fun a hF => ?_)
      refine vc_meet (l2 := ?lA2) hF [(26, .bool ((cmpB .gtr ((va.v.t.length : Nat)) (1024)) || ((va.v.s.any longT)))), (0, .agg ([.int .i64 va.v.k, .int .i64 va.v.n, strV va.v.t, .slice va.sA va.v.s.length va.sC]).toArray), (1, .pointer (some ⟨b1, 0, none⟩)), (2, .int .i64 0), (4, .agg ([.int .i64 va.v.k, .int .i64 va.v.n, strV va.v.t, .slice va.sA va.v.s.length va.sC]).toArray), (5, .bool va.v.formed), (6, .bool (!va.v.formed)), (3, .bool (!va.v.formed)), (16, .bool ((cmpB .eql (va.v.k) (4)) && (!(cmpB .geq va.v.n 0 && cmpB .leq va.v.n 4611686018427387904)))), (7, .bool ((cmpB .eql (va.v.k) (4)) && (!(cmpB .geq va.v.n 0 && cmpB .leq va.v.n 4611686018427387904))))] (fun hJ2 => ?elA2) (fun a hF => ?flA2)
      case elA2 =>
        rcases tf (cmpB .gtr ((va.v.t.length : Nat)) (1024)) with hg2 | hg2
        · refine vc_yg hF rfl rfl rfl rfl (some_bool hg2) (by decide) _ (y_field rfl Tryz.underlying25 rfl sz23_v2 (by decide) rfl (rfl : (⟨_, 0 + _, none⟩ : Addr) = ⟨_, 3, none⟩)) (fun a hF => ?_)
          refine vc_yg hF rfl rfl rfl rfl (some_bool hg2) (by decide) _ (y_ld rfl hA5.q rfl 0 rfl rfl nr23_v2) (fun a hF => ?_)
          refine vc_opg hF rfl rfl rfl (some_bool hg2) (fun K hK => ws_call hF rfl (by decide) cl155_v2 rfl rfl ?_)
          with_reducible refine (ev_contains va _ hV (List.Subset.trans hG (subC (sub0))) hA5 ).mono ?_
          rintro e' w11 ⟨rfl, rfl⟩
          refine ⟨_, rfl, fun a hF => hK _ _ ?_⟩
          clear hK K
          refine vc_y hF rfl rfl (by decide) _ (y_pickF hg2 rfl rfl rfl) (fun a hF => ?_)
          exact hJ2 _ ((hF.keep [26, 0, 1, 2, 4, 5, 6, 3, 16, 7] (F' := [(26, _), (0, _), (1, _), (2, _), (4, _), (5, _), (6, _), (3, _), (16, _), (7, _)]) rfl).bool (by rw [hg2]; rfl))
        · refine vc_skip hF rfl rfl rfl rfl rfl (ne_want hg2) (by decide) (fun a hF => ?_)
          refine vc_skip hF rfl rfl rfl rfl rfl (ne_want hg2) (by decide) (fun a hF => ?_)
          refine vc_skip hF rfl rfl rfl rfl rfl (ne_want hg2) (by decide) (fun a hF => ?_)
          refine vc_y hF rfl rfl (by decide) _ (y_pickT hg2 rfl rfl rfl) (fun a hF => ?_)
          exact hJ2 _ ((hF.keep [26, 0, 1, 2, 4, 5, 6, 3, 16, 7] (F' := [(26, _), (0, _), (1, _), (2, _), (4, _), (5, _), (6, _), (3, _), (16, _), (7, _)]) rfl).bool (by rw [hg2]; rfl))
      refine vc_y hF rfl rfl (by decide) _ (y_assign rfl rfl) (fun a hF => ?_)
      refine vc_nil ?_
      refine hK5 _ _ ?_; clear  hK5 K5
      rcases tf ((cmpB .gtr ((va.v.t.length : Nat)) (1024)) || ((va.v.s.any longT))) with hq2 | hq2
      · refine vc_falseB hF rfl hq2 ?_
        apply wp_seq_k; intro K6 hK6
        refine wp_region_lit ?_
        refine vc_y hF rfl rfl (by decide) _ (y_field rfl Tryz.underlying25 rfl sz23_v2 (by decide) rfl (rfl : (⟨_, 0 + _, none⟩ : Addr) = ⟨_, 3, none⟩)) (fun a hF => ?_)
        refine vc_y hF rfl rfl (by decide) _ (y_ld rfl hA5.q rfl 0 rfl rfl nr23_v2) (fun a hF => ?_)
        refine vc_y hF rfl rfl (by decide) _ (y_lenSl rfl Tryz.underlying23 rfl rfl) (fun a hF => ?_)
        refine vc_y hF rfl rfl (by decide) _ (y_cmp rfl rfl rfl rfl rfl) (fun a hF => ?_)
        refine vc_y hF rfl rfl (by decide) _ (y_assign rfl rfl) (fun a hF => ?_)
        refine vc_nil ?_
        refine hK6 _ _ ?_; clear  hK6 K6
        rcases tf (cmpB .gtr (va.v.s.length) (64)) with hq3 | hq3
        · refine vc_falseB hF rfl hq3 ?_
          apply wp_skip
          refine hK2 _ _ ?_; clear  hK2 K2
          apply wp_seq_k; intro K7 hK7
          refine wp_region_lit ?_
          refine vc_y hF rfl rfl (by decide) _ (y_assign rfl rfl) (fun a hF => ?_)
          refine vc_nil ?_
          refine hK7 _ _ ?_; clear  hK7 K7
          apply wp_ret
          refine vc_ret1 hF Tryz.results101 rfl ?_
          have hA12 : Hp w0 (R) w4 := Hp.sel [[row b1 25 [.int .i64 va.v.k, .int .i64 va.v.n, strV va.v.t, .slice va.sA va.v.s.length va.sC]]] R [] [0] hA5 rfl
          exact ⟨by rw [right_ok hq0 hq1 hq2 hq3]; rfl, hA12⟩
        · refine vc_trueB hF rfl hq3 ?_
          apply wp_seq_k; intro K8 hK8
          refine wp_region_lit ?_
          refine vc_y hF rfl rfl (by decide) _ (y_assign rfl rfl) (fun a hF => ?_)
          refine vc_nil ?_
          refine hK8 _ _ ?_; clear  hK8 K8
          apply wp_ret
          simp only [Exit.then, Exit.inBlock]
          refine vc_ret1 hF Tryz.results101 rfl ?_
          have hA13 : Hp w0 (R) w4 := Hp.sel [[row b1 25 [.int .i64 va.v.k, .int .i64 va.v.n, strV va.v.t, .slice va.sA va.v.s.length va.sC]]] R [] [0] hA5 rfl
          exact ⟨by rw [right_3 hq0 hq1 hq2 hq3]; rfl, hA13⟩
      · refine vc_trueB hF rfl hq2 ?_
        apply wp_seq_k; intro K9 hK9
        refine wp_region_lit ?_
        refine vc_y hF rfl rfl (by decide) _ (y_assign rfl rfl) (fun a hF => ?_)
        refine vc_nil ?_
        refine hK9 _ _ ?_; clear  hK9 K9
        apply wp_ret
        simp only [Exit.then, Exit.inBlock]
        refine vc_ret1 hF Tryz.results101 rfl ?_
        have hA14 : Hp w0 (R) w4 := Hp.sel [[row b1 25 [.int .i64 va.v.k, .int .i64 va.v.n, strV va.v.t, .slice va.sA va.v.s.length va.sC]]] R [] [0] hA5 rfl
        exact ⟨by rw [right_2 hq0 hq1 hq2]; rfl, hA14⟩
    · refine vc_trueB hF rfl hq1 ?_
      apply wp_seq_k; intro K10 hK10
      refine wp_region_lit ?_
      refine vc_y hF rfl rfl (by decide) _ (y_assign rfl rfl) (fun a hF => ?_)
      refine vc_nil ?_
      refine hK10 _ _ ?_; clear  hK10 K10
      apply wp_ret
      simp only [Exit.then, Exit.inBlock]
      refine vc_ret1 hF Tryz.results101 rfl ?_
      have hA15 : Hp w0 (R) w4 := Hp.sel [[row b1 25 [.int .i64 va.v.k, .int .i64 va.v.n, strV va.v.t, .slice va.sA va.v.s.length va.sC]]] R [] [0] hA5 rfl
      exact ⟨by rw [right_1 hq0 hq1]; rfl, hA15⟩
  · refine vc_trueB hF rfl hq0 ?_
    apply wp_seq_k; intro K11 hK11
    refine wp_region_lit ?_
    refine vc_y hF rfl rfl (by decide) _ (y_assign rfl rfl) (fun a hF => ?_)
    refine vc_nil ?_
    refine hK11 _ _ ?_; clear  hK11 K11
    apply wp_ret
    simp only [Exit.then, Exit.inBlock]
    refine vc_ret1 hF Tryz.results101 rfl ?_
    have hA16 : Hp w0 (R) w4 := Hp.sel [[row b1 25 [.int .i64 va.v.k, .int .i64 va.v.n, strV va.v.t, .slice va.sA va.v.s.length va.sC]]] R [] [0] hA5 rfl
    exact ⟨by rw [right_0 hq0]; rfl, hA16⟩
end Go.Proofs.YtepbmdlgdaedpaaGreatDoor
