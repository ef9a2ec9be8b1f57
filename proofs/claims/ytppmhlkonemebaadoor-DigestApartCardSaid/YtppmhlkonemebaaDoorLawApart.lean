/- The walk of the law DigestApart. -/
import Derived.Test.YtppmhlkonemebaaDoorTab5
namespace Go.Proofs.YtppmhlkonemebaaDoor
open Go.RowKit Go.Dk

section
variable {P : Program} {Q : Exit → Act → World → Prop} {w : World} {n : Nat} {F : List (Nat × Value)} {a : Act} {ops : Array Oper} {rest : List Oper} {o : Oper} {d : Nat} {t t' : TypeId} {x y : Operand}
theorem vc_skipU (hF : Fr n F a) (hd : o.dst = some d) {j dj : Nat} {want : Bool} {oj : Oper} (hg : o.guard = some (j, want)) (hj : ops[j]? = some oj) (hdj : oj.dst = some dj) (hl : Go.Dk.look F dj = some undef) (hlt : d < n)
    (h : ∀ a', Fr n ((d, undef) :: F) a' → wpList P ops Q rest a' w) : wpList P ops Q (o :: rest) a w :=
  wpList_step (fun K hK => by
    have h1 := hF.has dj _ hl
    have h2 : Region.wanted o (yielded ops a.tmps) = false := by
      unfold Region.wanted
      simp only [hg, yielded, hj, hdj, Option.bind_some, h1]
      rfl
    rw [if_neg (by rw [h2]; simp), hd]
    exact hK _ _ (h _ (hF.put hlt)))
theorem y_neBool {b c e : Bool} (ho : o.op = .binOp .neq t x y t') (hu : P.underlying t = some .bool) (hx : ev F x = some (.bool b)) (hy : ev F y = some (.bool c)) (he : (!(b == c)) = e) : Yd P n F o w (.bool e) := fun a hF => by
  subst he
  have h0 : (eqGuard .neq t x y (.bool b) (.bool c)).run P w = .ok () w := rfl
  unfold execOp
  simp only [ho, hF.ev hx, hF.ev hy, Sem.run_bind, h0, Result.andThen_ok, run_neq_bool w t b c hu, Sem.run_pure]
end
theorem texts_any (w : World) (k : Nat) (h1 : 1 ≤ k) (h8 : k ≤ 8) (pw pd pc ph : Int) (X Y : List UInt8) (PA : Option Addr) (p : List UInt8) (cp : Nat) (pq : Value) (hX : X.length = 32) (hY : Y.length = 32) (hcp : p.length ≤ cp) (hB : Bts w PA p) (hp : p.length < 140737488353000) :
    Calls Tryd.prog 54 #[.int .i64 (k : Int), .agg (PC pw pd pc ph X Y (.slice PA p.length cp) pq).toArray] w fun e w' => ∃ v Y0, e = .returned v ∧ Own w 5 1 Y0 v (textL k pc X Y p).length (dc (textL k pc X Y p)) ∧ At w Y0 w' := by
  rcases (show k = 1 ∨ k = 2 ∨ k = 3 ∨ k = 4 ∨ k = 5 ∨ k = 6 ∨ k = 7 ∨ k = 8 by omega) with rfl | rfl | rfl | rfl | rfl | rfl | rfl | rfl
  · exact texts_1 w pw pd pc ph X Y PA p cp pq hX hY hcp hB hp
  · exact texts_2 w pw pd pc ph X Y PA p cp pq hX hY hcp hB hp
  · exact texts_3 w pw pd pc ph X Y PA p cp pq hX hY hcp hB hp
  · exact texts_4 w pw pd pc ph X Y PA p cp pq hX hY hcp hB hp
  · exact texts_5 w pw pd pc ph X Y PA p cp pq hX hY hcp hB hp
  · exact texts_6 w pw pd pc ph X Y PA p cp pq hX hY hcp hB hp
  · exact texts_7 w pw pd pc ph X Y PA p cp pq hX hY hcp hB hp
  · exact texts_8 w pw pd pc ph X Y PA p cp pq hX hY hcp hB hp
theorem sums_any (w : World) (k : Nat) (h1 : 1 ≤ k) (h8 : k ≤ 8) (pw pd pc ph : Int) (X Y : List UInt8) (PA : Option Addr) (p : List UInt8) (cp : Nat) (pq : Value) (hX : X.length = 32) (hY : Y.length = 32) (hcp : p.length ≤ cp) (hB : Bts w PA p) (hp : p.length < 140737488353000) (width : Int) (hT : Tab w) :
    Calls Tryd.prog 55 #[.int .i64 (k : Int), .int .i64 width, .agg (PC pw pd pc ph X Y (.slice PA p.length cp) pq).toArray] w fun e w' => e = .returned (.agg (dc (cutL (sha (textL k pc X Y p)) width)).toArray) ∧ At w [] w' := by
  rcases (show k = 1 ∨ k = 2 ∨ k = 3 ∨ k = 4 ∨ k = 5 ∨ k = 6 ∨ k = 7 ∨ k = 8 by omega) with rfl | rfl | rfl | rfl | rfl | rfl | rfl | rfl
  · exact sum_1 w pw pd pc ph X Y PA p cp pq hX hY hcp hB hp width hT
  · exact sum_2 w pw pd pc ph X Y PA p cp pq hX hY hcp hB hp width hT
  · exact sum_3 w pw pd pc ph X Y PA p cp pq hX hY hcp hB hp width hT
  · exact sum_4 w pw pd pc ph X Y PA p cp pq hX hY hcp hB hp width hT
  · exact sum_5 w pw pd pc ph X Y PA p cp pq hX hY hcp hB hp width hT
  · exact sum_6 w pw pd pc ph X Y PA p cp pq hX hY hcp hB hp width hT
  · exact sum_7 w pw pd pc ph X Y PA p cp pq hX hY hcp hB hp width hT
  · exact sum_8 w pw pd pc ph X Y PA p cp pq hX hY hcp hB hp width hT
theorem text_diff {a b : Nat} {c c' : Int} {X Y X2 Y2 p q : List UInt8} (h1 : 1 ≤ a) (h8 : a ≤ 8) (k1 : 1 ≤ b) (k8 : b ≤ 8) (h : a ≠ b) : textL a c X Y p ≠ textL b c' X2 Y2 q := by
  rcases (show a = 1 ∨ a = 2 ∨ a = 3 ∨ a = 4 ∨ a = 5 ∨ a = 6 ∨ a = 7 ∨ a = 8 by omega) with rfl | rfl | rfl | rfl | rfl | rfl | rfl | rfl <;>
  rcases (show b = 1 ∨ b = 2 ∨ b = 3 ∨ b = 4 ∨ b = 5 ∨ b = 6 ∨ b = 7 ∨ b = 8 by omega) with rfl | rfl | rfl | rfl | rfl | rfl | rfl | rfl <;>
  first | (exact absurd rfl h) | (simp [textL])
theorem unlike_any (w : World) (a b : Nat) (h1 : 1 ≤ a) (h8 : a ≤ 8) (k1 : 1 ≤ b) (k8 : b ≤ 8) (pw pd pc ph : Int) (X Y : List UInt8) (PA : Option Addr) (p : List UInt8) (cp : Nat) (pq : Value) (hX : X.length = 32) (hY : Y.length = 32) (hcp : p.length ≤ cp) (hB : Bts w PA p) (hp : p.length < 140737488353000) (qw qd qc qh : Int) (X2 Y2 : List UInt8) (QA : Option Addr) (q : List UInt8) (cq : Nat) (qq : Value) (hX2 : X2.length = 32) (hY2 : Y2.length = 32) (hcq : q.length ≤ cq) (hBq : Bts w QA q) (hq : q.length < 140737488353000) (hC : -9223372036854775808 ≤ pc ∧ pc ≤ 9223372036854775807) (hC2 : -9223372036854775808 ≤ qc ∧ qc ≤ 9223372036854775807) :
    Calls Tryd.prog 57 #[.int .i64 (a : Int), .int .i64 (b : Int), .agg (PC pw pd pc ph X Y (.slice PA p.length cp) pq).toArray, .agg (PC qw qd qc qh X2 Y2 (.slice QA q.length cq) qq).toArray] w fun e w' => e = .returned (.bool (decide (textL a pc X Y p ≠ textL b qc X2 Y2 q))) ∧ At w [] w' := by
  by_cases hab : a = b
  · subst hab
    rcases (show a = 1 ∨ a = 2 ∨ a = 3 ∨ a = 4 ∨ a = 5 ∨ a = 6 ∨ a = 7 ∨ a = 8 by omega) with rfl | rfl | rfl | rfl | rfl | rfl | rfl | rfl
    · exact unlike_1 w pw pd pc ph X Y PA p cp pq hX hY hB qw qd qc qh X2 Y2 QA q cq qq hX2 hY2 hBq hC hC2
    · exact unlike_2 w pw pd pc ph X Y PA p cp pq hX hY hB qw qd qc qh X2 Y2 QA q cq qq hX2 hY2 hBq hC hC2
    · exact unlike_3 w pw pd pc ph X Y PA p cp pq hX hY hB qw qd qc qh X2 Y2 QA q cq qq hX2 hY2 hBq hC hC2
    · exact unlike_4 w pw pd pc ph X Y PA p cp pq hX hY hB qw qd qc qh X2 Y2 QA q cq qq hX2 hY2 hBq hC hC2
    · exact unlike_5 w pw pd pc ph X Y PA p cp pq hX hY hB qw qd qc qh X2 Y2 QA q cq qq hX2 hY2 hBq hC hC2
    · exact unlike_6 w pw pd pc ph X Y PA p cp pq hX hY hB qw qd qc qh X2 Y2 QA q cq qq hX2 hY2 hBq hC hC2
    · exact unlike_7 w pw pd pc ph X Y PA p cp pq hX hY hB qw qd qc qh X2 Y2 QA q cq qq hX2 hY2 hBq hC hC2
    · exact unlike_8 w pw pd pc ph X Y PA p cp pq hX hY hB qw qd qc qh X2 Y2 QA q cq qq hX2 hY2 hBq hC hC2
  · refine (unlike_two w a b (by omega) pw pd pc ph X Y PA p cp pq qw qd qc qh X2 Y2 QA q cq qq).mono ?_
    rintro e w' ⟨rfl, hA⟩
    exact ⟨by rw [decide_eq_true (text_diff h1 h8 k1 k8 hab)], hA⟩
theorem textL_le {k : Nat} {c : Int} {X Y p : List UInt8} (hX : X.length = 32) (hY : Y.length = 32) (hp : p.length < 140737488353000) : (textL k c X Y p).length < 140737488354000 := by
  unfold textL
  split <;> simp [hX, hY, be8_len] <;> omega
theorem neq_text (s t : List UInt8) : (!(decide (s ≠ t) == !(s == t))) = false := by
  by_cases h : s = t <;> simp [h]

theorem at_thenOld {w0 w w' : World} {L M : List Row} (h : At w0 L w) (hM : At w M w') (hn : ∀ r ∈ M, w.heap.size ≤ (r : Row).1) : At w0 L w' :=
  (h.thenNew hM hn).drop (List.sublist_append_right _ _) (fun r hr hlt => by
    rcases List.mem_append.1 hr with hr | hr
    · have := hn r hr; have := h.size; omega
    · exact hr)
theorem apart_clash {w w' : World} {width : Int} {SA TA : Option Addr} {cs ct : Nat} {s t : List UInt8} {e : Ending}
    (h : (NoClash (digOf width [(SA, cs, s), (TA, ct, t)]) (txOf [(SA, cs, s), (TA, ct, t)]) [((SA, cs, s) : Part), (TA, ct, t)].length ∧ e = .returned (.tuple #[.slice none 0 0, .slice none 0 0, .bool false]) ∧ At w [] w') ∨
      ∃ i j v1 v2 Y1 Y2, ClashAt (digOf width [(SA, cs, s), (TA, ct, t)]) (txOf [(SA, cs, s), (TA, ct, t)]) i j ∧ j < [((SA, cs, s) : Part), (TA, ct, t)].length ∧ e = .returned (.tuple #[v1, v2, .bool true]) ∧ Own w 5 1 Y1 v1 (txOf [(SA, cs, s), (TA, ct, t)] i).length (dc (txOf [(SA, cs, s), (TA, ct, t)] i)) ∧ Own w 5 1 Y2 v2 (txOf [(SA, cs, s), (TA, ct, t)] j).length (dc (txOf [(SA, cs, s), (TA, ct, t)] j)) ∧ At w (Y2 ++ Y1) w') :
    ∃ v1 v2 is Y1 Y2, e = .returned (.tuple #[v1, v2, .bool is]) ∧ At w (Y2 ++ Y1) w' ∧ Own w 5 1 Y1 v1 (if is then s else []).length (dc (if is then s else [])) ∧ Own w 5 1 Y2 v2 (if is then t else []).length (dc (if is then t else [])) ∧ (is = true ↔ (s ≠ t ∧ cutL (sha s) width = cutL (sha t) width)) := by
  rcases h with ⟨hn, rfl, hA⟩ | ⟨i, j, v1, v2, Y1, Y2, ⟨hij, hd, hx, _, _⟩, hj, rfl, hO1, hO2, hA⟩
  · refine ⟨_, _, false, [], [], rfl, hA, Own.nil w 5 1, Own.nil w 5 1, (fun h => by cases h), fun ⟨h1, h2⟩ => ?_⟩
    exact absurd (hn 0 1 (by simp) (by simp) h2) h1
  · have hj2 : j < 2 := hj
    obtain rfl : i = 0 := by omega
    obtain rfl : j = 1 := by omega
    exact ⟨v1, v2, true, Y1, Y2, rfl, hA, hO1, hO2, fun _ => ⟨hx, hd⟩, fun _ => rfl⟩
theorem rw64_la : isRow Tryd.prog 64 70 = true := by kernel_rfl
theorem cl21_la : CallsTo Tryd.prog 21 := ⟨_, Tryd.func21, by kernel_rfl, by kernel_rfl⟩
theorem cl28_la : CallsTo Tryd.prog 28 := ⟨_, Tryd.func28, by kernel_rfl, by kernel_rfl⟩
theorem cl53_la : CallsTo Tryd.prog 53 := ⟨_, Tryd.func53, by kernel_rfl, by kernel_rfl⟩
theorem cl54_la : CallsTo Tryd.prog 54 := ⟨_, Tryd.func54, by kernel_rfl, by kernel_rfl⟩
theorem cl55_la : CallsTo Tryd.prog 55 := ⟨_, Tryd.func55, by kernel_rfl, by kernel_rfl⟩
theorem cl56_la : CallsTo Tryd.prog 56 := ⟨_, Tryd.func56, by kernel_rfl, by kernel_rfl⟩
theorem cl57_la : CallsTo Tryd.prog 57 := ⟨_, Tryd.func57, by kernel_rfl, by kernel_rfl⟩

set_option maxRecDepth 100000 in
set_option maxHeartbeats 4000000 in
theorem law_apart (w : World) (na nb width : Int) (pw pd pc ph : Int) (X Y : List UInt8) (PA : Option Addr) (p : List UInt8) (cp : Nat) (pq : Value) (hX : X.length = 32) (hY : Y.length = 32) (hcp : p.length ≤ cp) (hB : Bts w PA p) (hp : p.length < 140737488353000) (qw qd qc qh : Int) (X2 Y2 : List UInt8) (QA : Option Addr) (q : List UInt8) (cq : Nat) (qq : Value) (hX2 : X2.length = 32) (hY2 : Y2.length = 32) (hcq : q.length ≤ cq) (hBq : Bts w QA q) (hq : q.length < 140737488353000) (hC : -9223372036854775808 ≤ pc ∧ pc ≤ 9223372036854775807) (hC2 : -9223372036854775808 ≤ qc ∧ qc ≤ 9223372036854775807) (hT : Tab w) :
    Calls Tryd.prog 10 #[.int .i64 na, .int .i64 nb, .int .i64 width, .agg (PC pw pd pc ph X Y (.slice PA p.length cp) pq).toArray, .agg (PC qw qd qc qh X2 Y2 (.slice QA q.length cq) qq).toArray] w fun e w' => e = .returned (.bool true) ∧ At w [] w' := by
  have hA0 := At.refl w
  have hpos : 0 < w.heap.size := hT.lt
  obtain ⟨ka, hka⟩ : ∃ k : Nat, withinI na 1 8 = (k : Int) := ⟨(withinI na 1 8).toNat, by have := within_le na 1 8 (by decide); omega⟩
  obtain ⟨kb, hkb⟩ : ∃ k : Nat, withinI nb 1 8 = (k : Int) := ⟨(withinI nb 1 8).toNat, by have := within_le nb 1 8 (by decide); omega⟩
  have ha1 : 1 ≤ ka := by have := within_le na 1 8 (by decide); omega
  have ha8 : ka ≤ 8 := by have := within_le na 1 8 (by decide); omega
  have hb1 : 1 ≤ kb := by have := within_le nb 1 8 (by decide); omega
  have hb8 : kb ≤ 8 := by have := within_le nb 1 8 (by decide); omega
  obtain ⟨s, hs⟩ : ∃ s, textL ka pc X Y p = s := ⟨_, rfl⟩
  obtain ⟨t, ht⟩ : ∃ t, textL kb qc X2 Y2 q = t := ⟨_, rfl⟩
  have hsl : s.length < 140737488354000 := by rw [← hs]; exact textL_le hX hY hp
  have htl : t.length < 140737488354000 := by rw [← ht]; exact textL_le hX2 hY2 hq
  refine vc_enter Tryd.func10 rfl Tryd.ntmps10 (Nat.le_of_ble_eq_true rfl) (fun a hF => ?_)
  apply wp_seq_k; intro K1 hK1
  refine wp_region_lit ?_
  refine vc_op rfl (fun K hK => ws_box (cs := PC pw pd pc ph X Y (.slice PA p.length cp) pq) hF rfl (by decide) rfl hA0 rfl (fun g8 w1 a hg8 hF hA1 => hK _ _ ?_))
  clear hK K
  refine vc_op rfl (fun K hK => ws_box (cs := PC qw qd qc qh X2 Y2 (.slice QA q.length cq) qq) hF rfl (by decide) rfl hA1 rfl (fun g9 w2 a hg9 hF hA2 => hK _ _ ?_))
  clear hK K
  have q9 : w.heap.size ≤ g9 := by have := hA1.size; omega
  have hn2 : ∀ r ∈ [((g9, 64, PC qw qd qc qh X2 Y2 (.slice QA q.length cq) qq) : Row), (g8, 64, PC pw pd pc ph X Y (.slice PA p.length cp) pq)], w.heap.size ≤ r.1 := cons_new q9 (one_new hg8)
  refine vc_y hF rfl rfl (by decide) _ (y_assign rfl rfl) (fun a hF => ?_)
  refine vc_nil ?_
  refine hK1 _ _ ?_; clear  hK1 K1
  apply wp_seq_k; intro K2 hK2
  refine wp_region_lit ?_
  refine vc_y hF rfl rfl (by decide) _ (y_move rfl rfl) (fun a hF => ?_)
  refine vc_op rfl (fun K hK => ws_call hF rfl (by decide) cl53_la rfl rfl ?_)
  with_reducible refine (within_any w2 na 1 8 (by decide) (by decide) (by decide)).mono ?_
  rintro e' w' ⟨rfl, rfl⟩
  refine ⟨_, rfl, fun a hF => hK _ _ ?_⟩; clear hK K
  rw [hka] at hF
  refine vc_y hF rfl rfl (by decide) _ (y_assign rfl rfl) (fun a hF => ?_)
  refine vc_nil ?_
  refine hK2 _ _ ?_; clear  hK2 K2
  apply wp_seq_k; intro K3 hK3
  refine wp_region_lit ?_
  refine vc_y hF rfl rfl (by decide) _ (y_move rfl rfl) (fun a hF => ?_)
  refine vc_op rfl (fun K hK => ws_call hF rfl (by decide) cl53_la rfl rfl ?_)
  with_reducible refine (within_any w2 nb 1 8 (by decide) (by decide) (by decide)).mono ?_
  rintro e' w' ⟨rfl, rfl⟩
  refine ⟨_, rfl, fun a hF => hK _ _ ?_⟩; clear hK K
  rw [hkb] at hF
  refine vc_y hF rfl rfl (by decide) _ (y_assign rfl rfl) (fun a hF => ?_)
  refine vc_nil ?_
  refine hK3 _ _ ?_; clear  hK3 K3
  apply wp_seq_k; intro K4 hK4
  refine wp_region_lit ?_
  refine vc_y hF rfl rfl (by decide) _ (y_move rfl rfl) (fun a hF => ?_)
  refine vc_y hF rfl rfl (by decide) _ (y_loadRow rfl hA2 rfl 1 rfl rw64_la (by rw [pc_len hX hY]; decide) (new := PC pw pd pc ph X Y (.slice PA p.length cp) pq) (by rw [List.drop_zero]; exact List.take_of_length_le (by rw [pc_len hX hY]; exact Nat.le_refl _))) (fun a hF => ?_)
  refine vc_op rfl (fun K hK => ws_call hF rfl (by decide) cl54_la rfl rfl ?_)
  with_reducible refine (texts_any w2 ka ha1 ha8 pw pd pc ph X Y PA p cp pq hX hY hcp (hB.fresh hA2 hn2) hp).mono ?_
  rintro e' w3 ⟨v3, Y3, rfl, hO3, hc3⟩
  refine ⟨_, rfl, fun a hF => hK _ _ ?_⟩; clear hK K
  rw [hs] at hO3
  have hO3n := hO3.new
  have hn3 : ∀ r ∈ Y3, w.heap.size ≤ (r : Row).1 := fun r hr => Nat.le_trans hA2.size (hO3n r hr)
  obtain ⟨_, SA, cs, rfl, hcs, hBS⟩ := own_parts hO3
  have hBs3 : Bts w3 SA s := hBS [] w3 hc3
  have hA3 : At w ([(g9, 64, PC qw qd qc qh X2 Y2 (.slice QA q.length cq) qq), (g8, 64, PC pw pd pc ph X Y (.slice PA p.length cp) pq)] ++ Y3) w3 := (hA2.thenNew hc3 hO3n).perm List.perm_append_comm
  refine vc_y hF rfl rfl (by decide) _ (y_assign rfl rfl) (fun a hF => ?_)
  refine vc_nil ?_
  refine hK4 _ _ ?_; clear  hK4 K4
  apply wp_seq_k; intro K5 hK5
  refine wp_region_lit ?_
  refine vc_y hF rfl rfl (by decide) _ (y_move rfl rfl) (fun a hF => ?_)
  refine vc_y hF rfl rfl (by decide) _ (y_loadRow rfl hA3 rfl 0 rfl rw64_la (by rw [pc_len hX2 hY2]; decide) (new := PC qw qd qc qh X2 Y2 (.slice QA q.length cq) qq) (by rw [List.drop_zero]; exact List.take_of_length_le (by rw [pc_len hX2 hY2]; exact Nat.le_refl _))) (fun a hF => ?_)
  refine vc_op rfl (fun K hK => ws_call hF rfl (by decide) cl54_la rfl rfl ?_)
  with_reducible refine (texts_any w3 kb hb1 hb8 qw qd qc qh X2 Y2 QA q cq qq hX2 hY2 hcq (hBq.fresh hA3 (all_new hn2 hn3)) hq).mono ?_
  rintro e' w4 ⟨v4, Y4, rfl, hO4, hc4⟩
  refine ⟨_, rfl, fun a hF => hK _ _ ?_⟩; clear hK K
  rw [ht] at hO4
  have hO4n := hO4.new
  have hn4 : ∀ r ∈ Y4, w.heap.size ≤ (r : Row).1 := fun r hr => Nat.le_trans hA3.size (hO4n r hr)
  obtain ⟨_, TA, ct, rfl, hct, hBT⟩ := own_parts hO4
  have hBt4 : Bts w4 TA t := hBT [] w4 hc4
  have hBs4 : Bts w4 SA s := hBs3.fresh hc4 hO4n
  have hA4 : At w ([(g9, 64, PC qw qd qc qh X2 Y2 (.slice QA q.length cq) qq), (g8, 64, PC pw pd pc ph X Y (.slice PA p.length cp) pq)] ++ (Y4 ++ Y3)) w4 := (hA3.thenNew hc4 hO4n).perm (by
    refine List.perm_append_comm.trans ?_
    rw [List.append_assoc]
    exact List.Perm.append_left _ List.perm_append_comm)
  have hnr : ∀ r ∈ [(g9, 64, PC qw qd qc qh X2 Y2 (.slice QA q.length cq) qq), (g8, 64, PC pw pd pc ph X Y (.slice PA p.length cp) pq)] ++ (Y4 ++ Y3), w.heap.size ≤ (r : Row).1 := all_new hn2 (all_new hn4 hn3)
  refine vc_y hF rfl rfl (by decide) _ (y_assign rfl rfl) (fun a hF => ?_)
  refine vc_nil ?_
  refine hK5 _ _ ?_; clear  hK5 K5
  apply wp_seq_k; intro K6 hK6
  apply wp_seq_k; intro K7 hK7
  refine wp_region_lit ?_
  refine vc_y hF rfl rfl (by decide) _ (y_move rfl rfl) (fun a hF => ?_)
  refine vc_y hF rfl rfl (by decide) _ (y_move rfl rfl) (fun a hF => ?_)
  refine vc_y hF rfl rfl (by decide) _ (y_loadRow rfl hA4 rfl 1 rfl rw64_la (by rw [pc_len hX hY]; decide) (new := PC pw pd pc ph X Y (.slice PA p.length cp) pq) (by rw [List.drop_zero]; exact List.take_of_length_le (by rw [pc_len hX hY]; exact Nat.le_refl _))) (fun a hF => ?_)
  refine vc_op rfl (fun K hK => ws_call hF rfl (by decide) cl55_la rfl rfl ?_)
  with_reducible refine (sums_any w4 ka ha1 ha8 pw pd pc ph X Y PA p cp pq hX hY hcp (hB.fresh hA4 hnr) hp width (hT.at_ hA4 (not0w hpos hnr))).mono ?_
  rintro e' w5 ⟨rfl, hc5⟩
  refine ⟨_, rfl, fun a hF => hK _ _ ?_⟩; clear hK K
  rw [hs] at hF
  have hA5 : At w ([(g9, 64, PC qw qd qc qh X2 Y2 (.slice QA q.length cq) qq), (g8, 64, PC pw pd pc ph X Y (.slice PA p.length cp) pq)] ++ (Y4 ++ Y3)) w5 := hA4.then0 hc5
  have hBs5 := hBs4.then0 hc5
  have hBt5 := hBt4.then0 hc5
  clear hc5
  refine vc_y hF rfl rfl (by decide) _ (y_move rfl rfl) (fun a hF => ?_)
  refine vc_op rfl (fun K hK => ws_call hF rfl (by decide) cl21_la rfl rfl ?_)
  with_reducible refine (digest_all w5 SA s cs _ rfl hcs hBs5 (by omega) (hT.at_ hA5 (not0w hpos hnr))).mono ?_
  rintro e' w6 ⟨rfl, hc6⟩
  refine ⟨_, rfl, fun a hF => hK _ _ ?_⟩; clear hK K
  have hA6 : At w ([(g9, 64, PC qw qd qc qh X2 Y2 (.slice QA q.length cq) qq), (g8, 64, PC pw pd pc ph X Y (.slice PA p.length cp) pq)] ++ (Y4 ++ Y3)) w6 := hA5.then0 hc6
  have hBs6 := hBs5.then0 hc6
  have hBt6 := hBt5.then0 hc6
  clear hc6
  refine vc_y hF rfl rfl (by decide) _ (y_move rfl rfl) (fun a hF => ?_)
  refine vc_op rfl (fun K hK => ws_call hF rfl (by decide) cl56_la rfl rfl ?_)
  with_reducible refine (cut_any _ width w6 (sha_length _)).mono ?_
  rintro e' w7 ⟨rfl, hc7⟩
  refine ⟨_, rfl, fun a hF => hK _ _ ?_⟩; clear hK K
  have hA7 : At w ([(g9, 64, PC qw qd qc qh X2 Y2 (.slice QA q.length cq) qq), (g8, 64, PC pw pd pc ph X Y (.slice PA p.length cp) pq)] ++ (Y4 ++ Y3)) w7 := hA6.then0 hc7
  have hBs7 := hBs6.then0 hc7
  have hBt7 := hBt6.then0 hc7
  clear hc7
  refine vc_y hF rfl rfl (by decide) _ (y_neB (c := false) rfl Tryd.underlying36 Tryd.underlying5 ow_size5 (by kernel_rfl) rfl rfl (cutL_length _ _ (sha_length _)) (cutL_length _ _ (sha_length _)) (ndec_f rfl)) (fun a hF => ?_)
  refine vc_y hF rfl rfl (by decide) _ (y_move rfl rfl) (fun a hF => ?_)
  refine vc_yg hF rfl rfl rfl rfl rfl (by decide) _ (y_move rfl rfl) (fun a hF => ?_)
  refine vc_yg hF rfl rfl rfl rfl rfl (by decide) _ (y_move rfl rfl) (fun a hF => ?_)
  refine vc_yg hF rfl rfl rfl rfl rfl (by decide) _ (y_loadRow rfl hA7 rfl 0 rfl rw64_la (by rw [pc_len hX2 hY2]; decide) (new := PC qw qd qc qh X2 Y2 (.slice QA q.length cq) qq) (by rw [List.drop_zero]; exact List.take_of_length_le (by rw [pc_len hX2 hY2]; exact Nat.le_refl _))) (fun a hF => ?_)
  refine vc_opg hF rfl rfl rfl rfl (fun K hK => ws_call hF rfl (by decide) cl55_la rfl rfl ?_)
  with_reducible refine (sums_any w7 kb hb1 hb8 qw qd qc qh X2 Y2 QA q cq qq hX2 hY2 hcq (hBq.fresh hA7 hnr) hq width (hT.at_ hA7 (not0w hpos hnr))).mono ?_
  rintro e' w8 ⟨rfl, hc8⟩
  refine ⟨_, rfl, fun a hF => hK _ _ ?_⟩; clear hK K
  rw [ht] at hF
  have hA8 : At w ([(g9, 64, PC qw qd qc qh X2 Y2 (.slice QA q.length cq) qq), (g8, 64, PC pw pd pc ph X Y (.slice PA p.length cp) pq)] ++ (Y4 ++ Y3)) w8 := hA7.then0 hc8
  have hBs8 := hBs7.then0 hc8
  have hBt8 := hBt7.then0 hc8
  clear hc8
  refine vc_yg hF rfl rfl rfl rfl rfl (by decide) _ (y_move rfl rfl) (fun a hF => ?_)
  refine vc_opg hF rfl rfl rfl rfl (fun K hK => ws_call hF rfl (by decide) cl21_la rfl rfl ?_)
  with_reducible refine (digest_all w8 TA t ct _ rfl hct hBt8 (by omega) (hT.at_ hA8 (not0w hpos hnr))).mono ?_
  rintro e' w9 ⟨rfl, hc9⟩
  refine ⟨_, rfl, fun a hF => hK _ _ ?_⟩; clear hK K
  have hA9 : At w ([(g9, 64, PC qw qd qc qh X2 Y2 (.slice QA q.length cq) qq), (g8, 64, PC pw pd pc ph X Y (.slice PA p.length cp) pq)] ++ (Y4 ++ Y3)) w9 := hA8.then0 hc9
  have hBs9 := hBs8.then0 hc9
  have hBt9 := hBt8.then0 hc9
  clear hc9
  refine vc_yg hF rfl rfl rfl rfl rfl (by decide) _ (y_move rfl rfl) (fun a hF => ?_)
  refine vc_opg hF rfl rfl rfl rfl (fun K hK => ws_call hF rfl (by decide) cl56_la rfl rfl ?_)
  with_reducible refine (cut_any _ width w9 (sha_length _)).mono ?_
  rintro e' w10 ⟨rfl, hc10⟩
  refine ⟨_, rfl, fun a hF => hK _ _ ?_⟩; clear hK K
  have hA10 : At w ([(g9, 64, PC qw qd qc qh X2 Y2 (.slice QA q.length cq) qq), (g8, 64, PC pw pd pc ph X Y (.slice PA p.length cp) pq)] ++ (Y4 ++ Y3)) w10 := hA9.then0 hc10
  have hBs10 := hBs9.then0 hc10
  have hBt10 := hBt9.then0 hc10
  clear hc10
  refine vc_yg hF rfl rfl rfl rfl rfl (by decide) _ (y_neB (c := false) rfl Tryd.underlying36 Tryd.underlying5 ow_size5 (by kernel_rfl) rfl rfl (cutL_length _ _ (sha_length _)) (cutL_length _ _ (sha_length _)) (ndec_f rfl)) (fun a hF => ?_)
  refine vc_y hF rfl rfl (by decide) _ (y_pick rfl rfl rfl) (fun a hF => ?_)
  refine vc_nil ?_
  refine hK7 _ _ ?_; clear  hK7 K7
  refine vc_false hF rfl ?_
  apply wp_skip
  refine hK6 _ _ ?_; clear  hK6 K6
  apply wp_seq_k; intro K8 hK8
  apply wp_seq_k; intro K9 hK9
  refine wp_region_plan 10 [4,10] [0,1,2,3,5,6,7,8,9,4,10] (fun x => At w ([(g9, 64, PC qw qd qc qh X2 Y2 (.slice QA q.length cq) qq), (g8, 64, PC pw pd pc ph X Y (.slice PA p.length cp) pq)] ++ (Y4 ++ Y3)) x ∧ Bts x SA s ∧ Bts x TA t) (by kernel_rfl) (by kernel_rfl) (⟨hA10.drew, hBs10, hBt10⟩) ?_
  refine vp_y hF rfl rfl rfl rfl (by decide) _ (fun x hx => y_move rfl rfl) (fun a hF => ?_)
  refine vp_y hF rfl rfl rfl rfl (by decide) _ (fun x hx => y_move rfl rfl) (fun a hF => ?_)
  refine vp_y hF rfl rfl rfl rfl (by decide) _ (fun x hx => y_loadRow rfl hx.1 rfl 1 rfl rw64_la (by rw [pc_len hX hY]; decide) (new := PC pw pd pc ph X Y (.slice PA p.length cp) pq) (by rw [List.drop_zero]; exact List.take_of_length_le (by rw [pc_len hX hY]; exact Nat.le_refl _))) (fun a hF => ?_)
  refine vp_y hF rfl rfl rfl rfl (by decide) _ (fun x hx => y_loadRow rfl hx.1 rfl 0 rfl rw64_la (by rw [pc_len hX2 hY2]; decide) (new := PC qw qd qc qh X2 Y2 (.slice QA q.length cq) qq) (by rw [List.drop_zero]; exact List.take_of_length_le (by rw [pc_len hX2 hY2]; exact Nat.le_refl _))) (fun a hF => ?_)
  refine vp_y hF rfl rfl rfl rfl (by decide) _ (fun x hx => y_move rfl rfl) (fun a hF => ?_)
  refine vp_y hF rfl rfl rfl rfl (by decide) _ (fun x hx => y_convStr rfl Tryd.underlying24 Tryd.underlying5 Tryd.underlying9 rfl rfl hx.2.1) (fun a hF => ?_)
  refine vp_y hF rfl rfl rfl rfl (by decide) _ (fun x hx => y_move rfl rfl) (fun a hF => ?_)
  refine vp_y hF rfl rfl rfl rfl (by decide) _ (fun x hx => y_convStr rfl Tryd.underlying24 Tryd.underlying5 Tryd.underlying9 rfl rfl hx.2.2) (fun a hF => ?_)
  refine vp_y hF rfl rfl rfl rfl (by decide) _ (fun x hx => y_cmpS (c := !(s == t)) rfl rfl rfl rfl rfl) (fun a hF => ?_)
  refine vp_l rfl rfl rfl (fun K hK => ws_call hF rfl (by decide) cl57_la rfl rfl ?_)
  with_reducible refine (unlike_any _ ka kb ha1 ha8 hb1 hb8 pw pd pc ph X Y PA p cp pq hX hY hcp (hB.fresh hA10.drew hnr) hp qw qd qc qh X2 Y2 QA q cq qq hX2 hY2 hcq (hBq.fresh hA10.drew hnr) hq hC hC2).mono ?_
  rintro e' w11 ⟨rfl, hc11⟩
  refine ⟨_, rfl, fun a hF => hK _ _ (fun _ => ⟨hA10.drew.then0 hc11, Bts.then0 (w := w10.drew) hBs10 hc11, Bts.then0 (w := w10.drew) hBt10 hc11⟩) ?_⟩; clear hK K
  rw [hs, ht] at hF
  have hA11 : At w ([(g9, 64, PC qw qd qc qh X2 Y2 (.slice QA q.length cq) qq), (g8, 64, PC pw pd pc ph X Y (.slice PA p.length cp) pq)] ++ (Y4 ++ Y3)) w11 := hA10.drew.then0 hc11
  have hBs11 : Bts w11 SA s := Bts.then0 (w := w10.drew) hBs10 hc11
  have hBt11 : Bts w11 TA t := Bts.then0 (w := w10.drew) hBt10 hc11
  clear hc11
  refine vp_ly hF rfl rfl rfl rfl (by decide) _ (y_neBool (e := false) rfl Tryd.underlying4 rfl rfl (neq_text s t)) (fun h => absurd h (by decide)) (fun a hF => ?_)
  refine plan_end ?_
  refine hK9 _ _ ?_; clear  hK9 K9
  refine vc_false hF rfl ?_
  apply wp_skip
  refine hK8 _ _ ?_; clear  hK8 K8
  apply wp_seq_k; intro K10 hK10
  have hl2 : ∀ A c l, (A, c, l) ∈ [((SA, cs, s) : Part), (TA, ct, t)] → l.length < 140737488354000 := fun A' c' l' h => by
    rcases List.mem_cons.1 h with h | h
    · obtain ⟨rfl, rfl, rfl⟩ : A' = SA ∧ c' = cs ∧ l' = s := by simpa using h
      exact hsl
    · obtain ⟨rfl, rfl, rfl⟩ : A' = TA ∧ c' = ct ∧ l' = t := by simpa using h
      exact htl
  refine wp_region_lit ?_
  refine vc_y hF rfl rfl (by decide) _ (y_move rfl rfl) (fun a hF => ?_)
  refine vc_y hF rfl rfl (by decide) _ (y_move rfl rfl) (fun a hF => ?_)
  refine vc_y hF rfl rfl (by decide) _ (y_move rfl rfl) (fun a hF => ?_)
  refine vc_op rfl (fun K hK => ws_bs2 (w0 := w11) (L := []) hF rfl (by decide) rfl (At.refl w11) rfl rfl (tb_part2 _ _ _ _ _ _) (fun g12 w12 a hg12 hF hX12 => hK _ _ ?_))
  clear hK K
  have q12 : w.heap.size ≤ g12 := by have := hA11.size; omega
  have h12 : At w11 [(g12, 24, [.slice SA s.length cs, .slice TA t.length ct])] w12 := hX12
  have hP : Pieces w12 (some ⟨g12, 0, none⟩) [(SA, cs, s), (TA, ct, t)] := Pieces.row h12 (k := 0) rfl (fun A' c' l' h => by
    rcases List.mem_cons.1 h with h | h
    · obtain ⟨rfl, rfl, rfl⟩ : A' = SA ∧ c' = cs ∧ l' = s := by simpa using h
      exact ⟨hcs, hBs11.fresh h12 (one_new hg12)⟩
    · obtain ⟨rfl, rfl, rfl⟩ : A' = TA ∧ c' = ct ∧ l' = t := by simpa using h
      exact ⟨hct, hBt11.fresh h12 (one_new hg12)⟩)
  have hA12 : At w ([(g9, 64, PC qw qd qc qh X2 Y2 (.slice QA q.length cq) qq), (g8, 64, PC pw pd pc ph X Y (.slice PA p.length cp) pq)] ++ (Y4 ++ Y3)) w12 := at_thenOld hA11 h12 (one_new hg12)
  have hBs12 := hBs11.fresh h12 (one_new hg12)
  have hBt12 := hBt11.fresh h12 (one_new hg12)
  refine vc_op rfl (fun K hK => ws_call hF rfl (by decide) cl28_la rfl rfl ?_)
  with_reducible refine (clash_any w12 width (some ⟨g12, 0, none⟩) _ 2 2 rfl hP hl2 (by decide) (hT.at_ hA12 (not0w hpos hnr))).mono ?_
  rintro e' w13 hres
  have hdisj : ∃ v1 v2 is Z1 Z2, e' = .returned (.tuple #[v1, v2, .bool is]) ∧ At w12 (Z2 ++ Z1) w13 ∧ Own w12 5 1 Z1 v1 (if is then s else []).length (dc (if is then s else [])) ∧ Own w12 5 1 Z2 v2 (if is then t else []).length (dc (if is then t else [])) ∧ (is = true ↔ (s ≠ t ∧ cutL (sha s) width = cutL (sha t) width)) := apart_clash hres
  clear hres
  obtain ⟨v1, v2, is, Z1, Z2, rfl, hc13, hO1, hO2, his⟩ := hdisj
  refine ⟨_, rfl, fun a hF => hK _ _ ?_⟩; clear hK K
  have hZ1 := hO1.new
  have hZ2 := hO2.new
  have hnc : ∀ r ∈ Z2 ++ Z1, w12.heap.size ≤ (r : Row).1 := all_new hZ2 hZ1
  have hA13 : At w ([(g9, 64, PC qw qd qc qh X2 Y2 (.slice QA q.length cq) qq), (g8, 64, PC pw pd pc ph X Y (.slice PA p.length cp) pq)] ++ (Y4 ++ Y3)) w13 := at_thenOld hA12 hc13 hnc
  have hBs13 := hBs12.fresh hc13 hnc
  have hBt13 := hBt12.fresh hc13 hnc
  obtain ⟨_, A1, c1, rfl, hc1, hB1⟩ := own_parts hO1
  obtain ⟨_, A2, c2, rfl, hc2, hB2⟩ := own_parts hO2
  have hB1' := hB1 Z2 w13 hc13
  have hB2' := hB2 Z1 w13 (hc13.perm List.perm_append_comm)
  refine vc_y hF rfl rfl (by decide) _ (y_move rfl rfl) (fun a hF => ?_)
  refine vc_y hF rfl rfl (by decide) _ (y_extract rfl rfl rfl) (fun a hF => ?_)
  refine vc_y hF rfl rfl (by decide) _ (y_extract rfl rfl rfl) (fun a hF => ?_)
  refine vc_y hF rfl rfl (by decide) _ (y_extract rfl rfl rfl) (fun a hF => ?_)
  refine vc_y hF rfl rfl (by decide) _ (y_assign rfl rfl) (fun a hF => ?_)
  refine vc_y hF rfl rfl (by decide) _ (y_assign rfl rfl) (fun a hF => ?_)
  refine vc_y hF rfl rfl (by decide) _ (y_assign rfl rfl) (fun a hF => ?_)
  refine vc_nil ?_
  refine hK10 _ _ ?_; clear  hK10 K10
  apply wp_seq_k; intro K11 hK11
  by_cases hst : s = t
  · obtain rfl : is = false := by cases is; rfl; exact absurd hst (his.1 rfl).1
    refine wp_region_plan 16 [9,13,16] [0,1,2,3,4,5,6,7,8,10,11,12,9,13,14,15,16] (fun x => At w ([(g9, 64, PC qw qd qc qh X2 Y2 (.slice QA q.length cq) qq), (g8, 64, PC pw pd pc ph X Y (.slice PA p.length cp) pq)] ++ (Y4 ++ Y3)) x ∧ Bts x SA s ∧ Bts x TA t) (by kernel_rfl) (by kernel_rfl) (⟨hA13.drew, hBs13, hBt13⟩) ?_
    refine vp_y hF rfl rfl rfl rfl (by decide) _ (fun x hx => y_move rfl rfl) (fun a hF => ?_)
    refine vp_y hF rfl rfl rfl rfl (by decide) _ (fun x hx => y_convStr rfl Tryd.underlying24 Tryd.underlying5 Tryd.underlying9 rfl rfl hx.2.1) (fun a hF => ?_)
    refine vp_y hF rfl rfl rfl rfl (by decide) _ (fun x hx => y_move rfl rfl) (fun a hF => ?_)
    refine vp_y hF rfl rfl rfl rfl (by decide) _ (fun x hx => y_convStr rfl Tryd.underlying24 Tryd.underlying5 Tryd.underlying9 rfl rfl hx.2.2) (fun a hF => ?_)
    refine vp_y hF rfl rfl rfl rfl (by decide) _ (fun x hx => y_cmpS (c := false) rfl rfl rfl rfl (by show (!(s == t)) = false; rw [hst]; simp)) (fun a hF => ?_)
    refine vp_y hF rfl rfl rfl rfl (by decide) _ (fun x hx => y_move rfl rfl) (fun a hF => ?_)
    refine vp_skip hF rfl rfl rfl rfl rfl rfl rfl rfl (by decide) (fun a hF => ?_)
    refine vp_skip hF rfl rfl rfl rfl rfl rfl rfl rfl (by decide) (fun a hF => ?_)
    refine vp_skip hF rfl rfl rfl rfl rfl rfl rfl rfl (by decide) (fun a hF => ?_)
    refine vp_skip hF rfl rfl rfl rfl rfl rfl rfl rfl (by decide) (fun a hF => ?_)
    refine vp_skip hF rfl rfl rfl rfl rfl rfl rfl rfl (by decide) (fun a hF => ?_)
    refine vp_skip hF rfl rfl rfl rfl rfl rfl rfl rfl (by decide) (fun a hF => ?_)
    refine vp_skipl hF rfl rfl rfl rfl rfl rfl rfl rfl (by decide) (⟨hA13.drew, hBs13, hBt13⟩) (fun a hF => ?_)
    refine vp_skipl hF rfl rfl rfl rfl rfl rfl rfl rfl (by decide) (⟨hA13.drew, hBs13, hBt13⟩) (fun a hF => ?_)
    refine vp_skip hF rfl rfl rfl rfl rfl rfl rfl rfl (by decide) (fun a hF => ?_)
    refine vp_y hF rfl rfl rfl rfl (by decide) _ (fun x hx => y_pick rfl rfl rfl) (fun a hF => ?_)
    refine vp_ly hF rfl rfl rfl rfl (by decide) _ (y_assign rfl rfl) (fun h => absurd h (by decide)) (fun a hF => ?_)
    refine plan_end ?_
    refine hK11 _ _ ?_; clear  hK11 K11
    apply wp_seq_k; intro K12 hK12
    apply wp_seq_k; intro K13 hK13
    refine wp_region_lit ?_
    refine vc_y hF rfl rfl (by decide) _ (y_move rfl rfl) (fun a hF => ?_)
    refine vc_y hF rfl rfl (by decide) _ (y_move rfl rfl) (fun a hF => ?_)
    refine vc_y hF rfl rfl (by decide) _ (y_neBool (e := false) rfl Tryd.underlying4 rfl rfl rfl) (fun a hF => ?_)
    refine vc_nil ?_
    refine hK13 _ _ ?_; clear  hK13 K13
    refine vc_false hF rfl ?_
    apply wp_skip
    refine hK12 _ _ ?_; clear  hK12 K12
    apply wp_seq_k; intro K14 hK14
    refine wp_region_lit ?_
    refine vc_y hF rfl rfl (by decide) _ (y_move rfl rfl) (fun a hF => ?_)
    refine vc_y hF rfl rfl (by decide) _ (y_not rfl rfl rfl) (fun a hF => ?_)
    refine vc_y hF rfl rfl (by decide) _ (y_move rfl rfl) (fun a hF => ?_)
    refine vc_yg hF rfl rfl rfl rfl rfl (by decide) _ (y_move rfl rfl) (fun a hF => ?_)
    refine vc_yg hF rfl rfl rfl rfl rfl (by decide) _ (y_lenSl rfl Tryd.underlying24 rfl rfl) (fun a hF => ?_)
    refine vc_yg hF rfl rfl rfl rfl rfl (by decide) _ (y_cmp (c := true) rfl rfl rfl rfl rfl) (fun a hF => ?_)
    refine vc_y hF rfl rfl (by decide) _ (y_pick rfl rfl rfl) (fun a hF => ?_)
    refine vc_y hF rfl rfl (by decide) _ (y_move rfl rfl) (fun a hF => ?_)
    refine vc_yg hF rfl rfl rfl rfl rfl (by decide) _ (y_move rfl rfl) (fun a hF => ?_)
    refine vc_yg hF rfl rfl rfl rfl rfl (by decide) _ (y_lenSl rfl Tryd.underlying24 rfl rfl) (fun a hF => ?_)
    refine vc_yg hF rfl rfl rfl rfl rfl (by decide) _ (y_cmp (c := true) rfl rfl rfl rfl rfl) (fun a hF => ?_)
    refine vc_y hF rfl rfl (by decide) _ (y_pick rfl rfl rfl) (fun a hF => ?_)
    refine vc_y hF rfl rfl (by decide) _ (y_move rfl rfl) (fun a hF => ?_)
    refine vc_skip hF rfl rfl rfl rfl rfl rfl (by decide) (fun a hF => ?_)
    refine vc_skip hF rfl rfl rfl rfl rfl rfl (by decide) (fun a hF => ?_)
    refine vc_skipU hF rfl rfl rfl rfl rfl (by decide) (fun a hF => ?_)
    refine vc_skipU hF rfl rfl rfl rfl rfl (by decide) (fun a hF => ?_)
    refine vc_skipU hF rfl rfl rfl rfl rfl (by decide) (fun a hF => ?_)
    refine vc_skipU hF rfl rfl rfl rfl rfl (by decide) (fun a hF => ?_)
    refine vc_skipU hF rfl rfl rfl rfl rfl (by decide) (fun a hF => ?_)
    refine vc_skip hF rfl rfl rfl rfl rfl rfl (by decide) (fun a hF => ?_)
    refine vc_skip hF rfl rfl rfl rfl rfl rfl (by decide) (fun a hF => ?_)
    refine vc_skipU hF rfl rfl rfl rfl rfl (by decide) (fun a hF => ?_)
    refine vc_skipU hF rfl rfl rfl rfl rfl (by decide) (fun a hF => ?_)
    refine vc_skipU hF rfl rfl rfl rfl rfl (by decide) (fun a hF => ?_)
    refine vc_skipU hF rfl rfl rfl rfl rfl (by decide) (fun a hF => ?_)
    refine vc_skipU hF rfl rfl rfl rfl rfl (by decide) (fun a hF => ?_)
    refine vc_skip hF rfl rfl rfl rfl rfl rfl (by decide) (fun a hF => ?_)
    refine vc_y hF rfl rfl (by decide) _ (y_pick rfl rfl rfl) (fun a hF => ?_)
    refine vc_y hF rfl rfl (by decide) _ (y_assign rfl rfl) (fun a hF => ?_)
    refine vc_nil ?_
    refine hK14 _ _ ?_; clear  hK14 K14
    apply wp_ret
    refine vc_ret1 hF Tryd.results10 rfl ?_
    exact ⟨rfl, At.dropNew hA13.drew (List.nil_sublist _) hnr⟩
  · by_cases hd : cutL (sha s) width = cutL (sha t) width
    · obtain rfl : is = true := his.2 ⟨hst, hd⟩
      simp only [if_true] at hB1' hB2' hF
      refine wp_region_plan 16 [9,13,16] [0,1,2,3,4,5,6,7,8,10,11,12,9,13,14,15,16] (fun x => At w ([(g9, 64, PC qw qd qc qh X2 Y2 (.slice QA q.length cq) qq), (g8, 64, PC pw pd pc ph X Y (.slice PA p.length cp) pq)] ++ (Y4 ++ Y3)) x ∧ Bts x SA s ∧ Bts x TA t) (by kernel_rfl) (by kernel_rfl) (⟨hA13.drew, hBs13, hBt13⟩) ?_
      refine vp_y hF rfl rfl rfl rfl (by decide) _ (fun x hx => y_move rfl rfl) (fun a hF => ?_)
      refine vp_y hF rfl rfl rfl rfl (by decide) _ (fun x hx => y_convStr rfl Tryd.underlying24 Tryd.underlying5 Tryd.underlying9 rfl rfl hx.2.1) (fun a hF => ?_)
      refine vp_y hF rfl rfl rfl rfl (by decide) _ (fun x hx => y_move rfl rfl) (fun a hF => ?_)
      refine vp_y hF rfl rfl rfl rfl (by decide) _ (fun x hx => y_convStr rfl Tryd.underlying24 Tryd.underlying5 Tryd.underlying9 rfl rfl hx.2.2) (fun a hF => ?_)
      refine vp_y hF rfl rfl rfl rfl (by decide) _ (fun x hx => y_cmpS (c := true) rfl rfl rfl rfl (by show (!(s == t)) = true; simp [hst])) (fun a hF => ?_)
      refine vp_y hF rfl rfl rfl rfl (by decide) _ (fun x hx => y_move rfl rfl) (fun a hF => ?_)
      refine vp_yg hF rfl rfl rfl rfl rfl rfl rfl (by decide) _ (fun x hx => y_move rfl rfl) (fun a hF => ?_)
      refine vp_yg hF rfl rfl rfl rfl rfl rfl rfl (by decide) _ (fun x hx => y_move rfl rfl) (fun a hF => ?_)
      refine vp_yg hF rfl rfl rfl rfl rfl rfl rfl (by decide) _ (fun x hx => y_loadRow rfl hx.1 rfl 1 rfl rw64_la (by rw [pc_len hX hY]; decide) (new := PC pw pd pc ph X Y (.slice PA p.length cp) pq) (by rw [List.drop_zero]; exact List.take_of_length_le (by rw [pc_len hX hY]; exact Nat.le_refl _))) (fun a hF => ?_)
      refine vp_yg hF rfl rfl rfl rfl rfl rfl rfl (by decide) _ (fun x hx => y_move rfl rfl) (fun a hF => ?_)
      refine vp_yg hF rfl rfl rfl rfl rfl rfl rfl (by decide) _ (fun x hx => y_move rfl rfl) (fun a hF => ?_)
      refine vp_yg hF rfl rfl rfl rfl rfl rfl rfl (by decide) _ (fun x hx => y_loadRow rfl hx.1 rfl 0 rfl rw64_la (by rw [pc_len hX2 hY2]; decide) (new := PC qw qd qc qh X2 Y2 (.slice QA q.length cq) qq) (by rw [List.drop_zero]; exact List.take_of_length_le (by rw [pc_len hX2 hY2]; exact Nat.le_refl _))) (fun a hF => ?_)
      refine vp_lg hF rfl rfl rfl rfl rfl rfl (fun K hK => ws_call hF rfl (by decide) cl55_la rfl rfl ?_)
      with_reducible refine (sums_any _ ka ha1 ha8 pw pd pc ph X Y PA p cp pq hX hY hcp (hB.fresh hA13.drew hnr) hp width (hT.at_ hA13.drew (not0w hpos hnr))).mono ?_
      rintro e' w14 ⟨rfl, hc14⟩
      refine ⟨_, rfl, fun a hF => hK _ _ (fun _ => ⟨hA13.drew.then0 hc14, Bts.then0 (w := w13.drew) hBs13 hc14, Bts.then0 (w := w13.drew) hBt13 hc14⟩) ?_⟩; clear hK K
      rw [hs] at hF
      have hA14 : At w ([(g9, 64, PC qw qd qc qh X2 Y2 (.slice QA q.length cq) qq), (g8, 64, PC pw pd pc ph X Y (.slice PA p.length cp) pq)] ++ (Y4 ++ Y3)) w14 := hA13.drew.then0 hc14
      have hBs14 : Bts w14 SA s := Bts.then0 (w := w13.drew) hBs13 hc14
      have hBt14 : Bts w14 TA t := Bts.then0 (w := w13.drew) hBt13 hc14
      refine vp_lg hF rfl rfl rfl rfl rfl rfl (fun K hK => ws_call hF rfl (by decide) cl55_la rfl rfl ?_)
      with_reducible refine (sums_any w14 kb hb1 hb8 qw qd qc qh X2 Y2 QA q cq qq hX2 hY2 hcq (hBq.fresh hA14 hnr) hq width (hT.at_ hA14 (not0w hpos hnr))).mono ?_
      rintro e' w15 ⟨rfl, hc15⟩
      refine ⟨_, rfl, fun a hF => hK _ _ (fun _ => ⟨hA14.then0 hc15, hBs14.then0 hc15, hBt14.then0 hc15⟩) ?_⟩; clear hK K
      rw [ht] at hF
      have hA15 : At w ([(g9, 64, PC qw qd qc qh X2 Y2 (.slice QA q.length cq) qq), (g8, 64, PC pw pd pc ph X Y (.slice PA p.length cp) pq)] ++ (Y4 ++ Y3)) w15 := hA14.then0 hc15
      have hBs15 := hBs14.then0 hc15
      have hBt15 := hBt14.then0 hc15
      refine vp_yg hF rfl rfl rfl rfl rfl rfl rfl (by decide) _ (fun x hx => y_eqB (c := true) rfl Tryd.underlying36 Tryd.underlying5 ow_size5 (by kernel_rfl) rfl rfl (cutL_length _ _ (sha_length _)) (cutL_length _ _ (sha_length _)) (dec_t hd)) (fun a hF => ?_)
      refine vp_y hF rfl rfl rfl rfl (by decide) _ (fun x hx => y_pick rfl rfl rfl) (fun a hF => ?_)
      refine vp_ly hF rfl rfl rfl rfl (by decide) _ (y_assign rfl rfl) (fun h => absurd h (by decide)) (fun a hF => ?_)
      refine plan_end ?_
      refine hK11 _ _ ?_; clear  hK11 K11
      apply wp_seq_k; intro K15 hK15
      apply wp_seq_k; intro K16 hK16
      refine wp_region_lit ?_
      refine vc_y hF rfl rfl (by decide) _ (y_move rfl rfl) (fun a hF => ?_)
      refine vc_y hF rfl rfl (by decide) _ (y_move rfl rfl) (fun a hF => ?_)
      refine vc_y hF rfl rfl (by decide) _ (y_neBool (e := false) rfl Tryd.underlying4 rfl rfl rfl) (fun a hF => ?_)
      refine vc_nil ?_
      refine hK16 _ _ ?_; clear  hK16 K16
      refine vc_false hF rfl ?_
      apply wp_skip
      refine hK15 _ _ ?_; clear  hK15 K15
      apply wp_seq_k; intro K17 hK17
      have hB1f : Bts w15 A1 s := (Bts.then0 (w := w13.drew) hB1' hc14).then0 hc15
      have hB2f : Bts w15 A2 t := (Bts.then0 (w := w13.drew) hB2' hc14).then0 hc15
      refine wp_region_lit ?_
      refine vc_y hF rfl rfl (by decide) _ (y_move rfl rfl) (fun a hF => ?_)
      refine vc_y hF rfl rfl (by decide) _ (y_not rfl rfl rfl) (fun a hF => ?_)
      refine vc_y hF rfl rfl (by decide) _ (y_move rfl rfl) (fun a hF => ?_)
      refine vc_skip hF rfl rfl rfl rfl rfl rfl (by decide) (fun a hF => ?_)
      refine vc_skip hF rfl rfl rfl rfl rfl rfl (by decide) (fun a hF => ?_)
      refine vc_skip hF rfl rfl rfl rfl rfl rfl (by decide) (fun a hF => ?_)
      refine vc_y hF rfl rfl (by decide) _ (y_pick rfl rfl rfl) (fun a hF => ?_)
      refine vc_y hF rfl rfl (by decide) _ (y_move rfl rfl) (fun a hF => ?_)
      refine vc_skip hF rfl rfl rfl rfl rfl rfl (by decide) (fun a hF => ?_)
      refine vc_skip hF rfl rfl rfl rfl rfl rfl (by decide) (fun a hF => ?_)
      refine vc_skip hF rfl rfl rfl rfl rfl rfl (by decide) (fun a hF => ?_)
      refine vc_y hF rfl rfl (by decide) _ (y_pick rfl rfl rfl) (fun a hF => ?_)
      refine vc_y hF rfl rfl (by decide) _ (y_move rfl rfl) (fun a hF => ?_)
      refine vc_yg hF rfl rfl rfl rfl rfl (by decide) _ (y_move rfl rfl) (fun a hF => ?_)
      refine vc_yg hF rfl rfl rfl rfl rfl (by decide) _ (y_move rfl rfl) (fun a hF => ?_)
      refine vc_yg hF rfl rfl rfl rfl rfl (by decide) _ (y_move rfl rfl) (fun a hF => ?_)
      refine vc_yg hF rfl rfl rfl rfl rfl (by decide) _ (y_convStr rfl Tryd.underlying24 Tryd.underlying5 Tryd.underlying9 rfl rfl hB1f) (fun a hF => ?_)
      refine vc_yg hF rfl rfl rfl rfl rfl (by decide) _ (y_move rfl rfl) (fun a hF => ?_)
      refine vc_yg hF rfl rfl rfl rfl rfl (by decide) _ (y_convStr rfl Tryd.underlying24 Tryd.underlying5 Tryd.underlying9 rfl rfl hBs15) (fun a hF => ?_)
      refine vc_yg hF rfl rfl rfl rfl rfl (by decide) _ (y_cmpS (c := true) rfl rfl rfl rfl (beq_self_eq_true s)) (fun a hF => ?_)
      refine vc_yg hF rfl rfl rfl rfl rfl (by decide) _ (y_pick rfl rfl rfl) (fun a hF => ?_)
      refine vc_yg hF rfl rfl rfl rfl rfl (by decide) _ (y_move rfl rfl) (fun a hF => ?_)
      refine vc_yg hF rfl rfl rfl rfl rfl (by decide) _ (y_move rfl rfl) (fun a hF => ?_)
      refine vc_yg hF rfl rfl rfl rfl rfl (by decide) _ (y_convStr rfl Tryd.underlying24 Tryd.underlying5 Tryd.underlying9 rfl rfl hB2f) (fun a hF => ?_)
      refine vc_yg hF rfl rfl rfl rfl rfl (by decide) _ (y_move rfl rfl) (fun a hF => ?_)
      refine vc_yg hF rfl rfl rfl rfl rfl (by decide) _ (y_convStr rfl Tryd.underlying24 Tryd.underlying5 Tryd.underlying9 rfl rfl hBt15) (fun a hF => ?_)
      refine vc_yg hF rfl rfl rfl rfl rfl (by decide) _ (y_cmpS (c := true) rfl rfl rfl rfl (beq_self_eq_true t)) (fun a hF => ?_)
      refine vc_yg hF rfl rfl rfl rfl rfl (by decide) _ (y_pick rfl rfl rfl) (fun a hF => ?_)
      refine vc_y hF rfl rfl (by decide) _ (y_pick rfl rfl rfl) (fun a hF => ?_)
      refine vc_y hF rfl rfl (by decide) _ (y_assign rfl rfl) (fun a hF => ?_)
      refine vc_nil ?_
      refine hK17 _ _ ?_; clear  hK17 K17
      apply wp_ret
      refine vc_ret1 hF Tryd.results10 rfl ?_
      exact ⟨rfl, At.dropNew hA15 (List.nil_sublist _) hnr⟩
    · obtain rfl : is = false := by cases is; rfl; exact absurd (his.1 rfl).2 hd
      refine wp_region_plan 16 [9,13,16] [0,1,2,3,4,5,6,7,8,10,11,12,9,13,14,15,16] (fun x => At w ([(g9, 64, PC qw qd qc qh X2 Y2 (.slice QA q.length cq) qq), (g8, 64, PC pw pd pc ph X Y (.slice PA p.length cp) pq)] ++ (Y4 ++ Y3)) x ∧ Bts x SA s ∧ Bts x TA t) (by kernel_rfl) (by kernel_rfl) (⟨hA13.drew, hBs13, hBt13⟩) ?_
      refine vp_y hF rfl rfl rfl rfl (by decide) _ (fun x hx => y_move rfl rfl) (fun a hF => ?_)
      refine vp_y hF rfl rfl rfl rfl (by decide) _ (fun x hx => y_convStr rfl Tryd.underlying24 Tryd.underlying5 Tryd.underlying9 rfl rfl hx.2.1) (fun a hF => ?_)
      refine vp_y hF rfl rfl rfl rfl (by decide) _ (fun x hx => y_move rfl rfl) (fun a hF => ?_)
      refine vp_y hF rfl rfl rfl rfl (by decide) _ (fun x hx => y_convStr rfl Tryd.underlying24 Tryd.underlying5 Tryd.underlying9 rfl rfl hx.2.2) (fun a hF => ?_)
      refine vp_y hF rfl rfl rfl rfl (by decide) _ (fun x hx => y_cmpS (c := true) rfl rfl rfl rfl (by show (!(s == t)) = true; simp [hst])) (fun a hF => ?_)
      refine vp_y hF rfl rfl rfl rfl (by decide) _ (fun x hx => y_move rfl rfl) (fun a hF => ?_)
      refine vp_yg hF rfl rfl rfl rfl rfl rfl rfl (by decide) _ (fun x hx => y_move rfl rfl) (fun a hF => ?_)
      refine vp_yg hF rfl rfl rfl rfl rfl rfl rfl (by decide) _ (fun x hx => y_move rfl rfl) (fun a hF => ?_)
      refine vp_yg hF rfl rfl rfl rfl rfl rfl rfl (by decide) _ (fun x hx => y_loadRow rfl hx.1 rfl 1 rfl rw64_la (by rw [pc_len hX hY]; decide) (new := PC pw pd pc ph X Y (.slice PA p.length cp) pq) (by rw [List.drop_zero]; exact List.take_of_length_le (by rw [pc_len hX hY]; exact Nat.le_refl _))) (fun a hF => ?_)
      refine vp_yg hF rfl rfl rfl rfl rfl rfl rfl (by decide) _ (fun x hx => y_move rfl rfl) (fun a hF => ?_)
      refine vp_yg hF rfl rfl rfl rfl rfl rfl rfl (by decide) _ (fun x hx => y_move rfl rfl) (fun a hF => ?_)
      refine vp_yg hF rfl rfl rfl rfl rfl rfl rfl (by decide) _ (fun x hx => y_loadRow rfl hx.1 rfl 0 rfl rw64_la (by rw [pc_len hX2 hY2]; decide) (new := PC qw qd qc qh X2 Y2 (.slice QA q.length cq) qq) (by rw [List.drop_zero]; exact List.take_of_length_le (by rw [pc_len hX2 hY2]; exact Nat.le_refl _))) (fun a hF => ?_)
      refine vp_lg hF rfl rfl rfl rfl rfl rfl (fun K hK => ws_call hF rfl (by decide) cl55_la rfl rfl ?_)
      with_reducible refine (sums_any _ ka ha1 ha8 pw pd pc ph X Y PA p cp pq hX hY hcp (hB.fresh hA13.drew hnr) hp width (hT.at_ hA13.drew (not0w hpos hnr))).mono ?_
      rintro e' w14 ⟨rfl, hc14⟩
      refine ⟨_, rfl, fun a hF => hK _ _ (fun _ => ⟨hA13.drew.then0 hc14, Bts.then0 (w := w13.drew) hBs13 hc14, Bts.then0 (w := w13.drew) hBt13 hc14⟩) ?_⟩; clear hK K
      rw [hs] at hF
      have hA14 : At w ([(g9, 64, PC qw qd qc qh X2 Y2 (.slice QA q.length cq) qq), (g8, 64, PC pw pd pc ph X Y (.slice PA p.length cp) pq)] ++ (Y4 ++ Y3)) w14 := hA13.drew.then0 hc14
      have hBs14 : Bts w14 SA s := Bts.then0 (w := w13.drew) hBs13 hc14
      have hBt14 : Bts w14 TA t := Bts.then0 (w := w13.drew) hBt13 hc14
      refine vp_lg hF rfl rfl rfl rfl rfl rfl (fun K hK => ws_call hF rfl (by decide) cl55_la rfl rfl ?_)
      with_reducible refine (sums_any w14 kb hb1 hb8 qw qd qc qh X2 Y2 QA q cq qq hX2 hY2 hcq (hBq.fresh hA14 hnr) hq width (hT.at_ hA14 (not0w hpos hnr))).mono ?_
      rintro e' w15 ⟨rfl, hc15⟩
      refine ⟨_, rfl, fun a hF => hK _ _ (fun _ => ⟨hA14.then0 hc15, hBs14.then0 hc15, hBt14.then0 hc15⟩) ?_⟩; clear hK K
      rw [ht] at hF
      have hA15 : At w ([(g9, 64, PC qw qd qc qh X2 Y2 (.slice QA q.length cq) qq), (g8, 64, PC pw pd pc ph X Y (.slice PA p.length cp) pq)] ++ (Y4 ++ Y3)) w15 := hA14.then0 hc15
      have hBs15 := hBs14.then0 hc15
      have hBt15 := hBt14.then0 hc15
      refine vp_yg hF rfl rfl rfl rfl rfl rfl rfl (by decide) _ (fun x hx => y_eqB (c := false) rfl Tryd.underlying36 Tryd.underlying5 ow_size5 (by kernel_rfl) rfl rfl (cutL_length _ _ (sha_length _)) (cutL_length _ _ (sha_length _)) (dec_f hd)) (fun a hF => ?_)
      refine vp_y hF rfl rfl rfl rfl (by decide) _ (fun x hx => y_pick rfl rfl rfl) (fun a hF => ?_)
      refine vp_ly hF rfl rfl rfl rfl (by decide) _ (y_assign rfl rfl) (fun h => absurd h (by decide)) (fun a hF => ?_)
      refine plan_end ?_
      refine hK11 _ _ ?_; clear  hK11 K11
      apply wp_seq_k; intro K18 hK18
      apply wp_seq_k; intro K19 hK19
      refine wp_region_lit ?_
      refine vc_y hF rfl rfl (by decide) _ (y_move rfl rfl) (fun a hF => ?_)
      refine vc_y hF rfl rfl (by decide) _ (y_move rfl rfl) (fun a hF => ?_)
      refine vc_y hF rfl rfl (by decide) _ (y_neBool (e := false) rfl Tryd.underlying4 rfl rfl rfl) (fun a hF => ?_)
      refine vc_nil ?_
      refine hK19 _ _ ?_; clear  hK19 K19
      refine vc_false hF rfl ?_
      apply wp_skip
      refine hK18 _ _ ?_; clear  hK18 K18
      apply wp_seq_k; intro K20 hK20
      refine wp_region_lit ?_
      refine vc_y hF rfl rfl (by decide) _ (y_move rfl rfl) (fun a hF => ?_)
      refine vc_y hF rfl rfl (by decide) _ (y_not rfl rfl rfl) (fun a hF => ?_)
      refine vc_y hF rfl rfl (by decide) _ (y_move rfl rfl) (fun a hF => ?_)
      refine vc_yg hF rfl rfl rfl rfl rfl (by decide) _ (y_move rfl rfl) (fun a hF => ?_)
      refine vc_yg hF rfl rfl rfl rfl rfl (by decide) _ (y_lenSl rfl Tryd.underlying24 rfl rfl) (fun a hF => ?_)
      refine vc_yg hF rfl rfl rfl rfl rfl (by decide) _ (y_cmp (c := true) rfl rfl rfl rfl rfl) (fun a hF => ?_)
      refine vc_y hF rfl rfl (by decide) _ (y_pick rfl rfl rfl) (fun a hF => ?_)
      refine vc_y hF rfl rfl (by decide) _ (y_move rfl rfl) (fun a hF => ?_)
      refine vc_yg hF rfl rfl rfl rfl rfl (by decide) _ (y_move rfl rfl) (fun a hF => ?_)
      refine vc_yg hF rfl rfl rfl rfl rfl (by decide) _ (y_lenSl rfl Tryd.underlying24 rfl rfl) (fun a hF => ?_)
      refine vc_yg hF rfl rfl rfl rfl rfl (by decide) _ (y_cmp (c := true) rfl rfl rfl rfl rfl) (fun a hF => ?_)
      refine vc_y hF rfl rfl (by decide) _ (y_pick rfl rfl rfl) (fun a hF => ?_)
      refine vc_y hF rfl rfl (by decide) _ (y_move rfl rfl) (fun a hF => ?_)
      refine vc_skip hF rfl rfl rfl rfl rfl rfl (by decide) (fun a hF => ?_)
      refine vc_skip hF rfl rfl rfl rfl rfl rfl (by decide) (fun a hF => ?_)
      refine vc_skipU hF rfl rfl rfl rfl rfl (by decide) (fun a hF => ?_)
      refine vc_skipU hF rfl rfl rfl rfl rfl (by decide) (fun a hF => ?_)
      refine vc_skipU hF rfl rfl rfl rfl rfl (by decide) (fun a hF => ?_)
      refine vc_skipU hF rfl rfl rfl rfl rfl (by decide) (fun a hF => ?_)
      refine vc_skipU hF rfl rfl rfl rfl rfl (by decide) (fun a hF => ?_)
      refine vc_skip hF rfl rfl rfl rfl rfl rfl (by decide) (fun a hF => ?_)
      refine vc_skip hF rfl rfl rfl rfl rfl rfl (by decide) (fun a hF => ?_)
      refine vc_skipU hF rfl rfl rfl rfl rfl (by decide) (fun a hF => ?_)
      refine vc_skipU hF rfl rfl rfl rfl rfl (by decide) (fun a hF => ?_)
      refine vc_skipU hF rfl rfl rfl rfl rfl (by decide) (fun a hF => ?_)
      refine vc_skipU hF rfl rfl rfl rfl rfl (by decide) (fun a hF => ?_)
      refine vc_skipU hF rfl rfl rfl rfl rfl (by decide) (fun a hF => ?_)
      refine vc_skip hF rfl rfl rfl rfl rfl rfl (by decide) (fun a hF => ?_)
      refine vc_y hF rfl rfl (by decide) _ (y_pick rfl rfl rfl) (fun a hF => ?_)
      refine vc_y hF rfl rfl (by decide) _ (y_assign rfl rfl) (fun a hF => ?_)
      refine vc_nil ?_
      refine hK20 _ _ ?_; clear  hK20 K20
      apply wp_ret
      refine vc_ret1 hF Tryd.results10 rfl ?_
      exact ⟨rfl, At.dropNew hA15 (List.nil_sublist _) hnr⟩
end Go.Proofs.YtppmhlkonemebaaDoor
