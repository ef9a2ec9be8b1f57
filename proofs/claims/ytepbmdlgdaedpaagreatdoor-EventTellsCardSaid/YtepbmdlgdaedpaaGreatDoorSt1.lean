/- Lists of names looked through; what a case holds. -/
import Derived.Test.YtepbmdlgdaedpaaGreatDoorEvT
import Derived.Test.YtepbmdlgdaedpaaGreatDoorEv9
namespace Go.Proofs.YtepbmdlgdaedpaaGreatDoor
open Go.RowKit Go.Dk

theorem nr9_v12 : notRow Tryz.prog 9 = true := by kernel_rfl
theorem nr23_v12 : notRow Tryz.prog 23 = true := by kernel_rfl
theorem nr50_v12 : notRow Tryz.prog 50 = true := by kernel_rfl
theorem rw25_v12 : isRow Tryz.prog 25 4 = true := by kernel_rfl
theorem rw76_v12 : isRow Tryz.prog 76 5 = true := by kernel_rfl
theorem sz9_v12 : (Tryz.prog.info? 9).map (·.size) = some 1 := by kernel_rfl
theorem sz23_v12 : (Tryz.prog.info? 23).map (·.size) = some 1 := by kernel_rfl
theorem sz25_v12 : (Tryz.prog.info? 25).map (·.size) = some 4 := by kernel_rfl
theorem sz50_v12 : (Tryz.prog.info? 50).map (·.size) = some 1 := by kernel_rfl
theorem sz76_v12 : (Tryz.prog.info? 76).map (·.size) = some 5 := by kernel_rfl
theorem cl28_v12 : CallsTo Tryz.prog 28 := ⟨_, Tryz.func28, by kernel_rfl, by kernel_rfl⟩
theorem cl146_v12 : CallsTo Tryz.prog 146 := ⟨_, Tryz.func146, by kernel_rfl, by kernel_rfl⟩

theorem zr25_v12 : zeroIs Tryz.prog 25 (.agg ([.int .i64 0, .int .i64 0, .string (⟨#[]⟩), .slice none 0 0] : List Value).toArray) := by unfold zeroIs; kernel_rfl
theorem zr76_v12 : zeroIs Tryz.prog 76 (.agg ([.string (⟨#[]⟩), .int .i64 0, .int .i64 0, .string (⟨#[]⟩), .slice none 0 0] : List Value).toArray) := by unfold zeroIs; kernel_rfl
/-- a case with the memory of its lists -/
structure CA where
  name : List UInt8
  typ : List UInt8
  cnt : Int
  ch : List UInt8
  vals : List (List UInt8 × VA)
  vA : Option Addr
  vC : Nat
  opn : List (List UInt8)
  oA : Option Addr
  oC : Nat
  clo : List (List UInt8)
  cA : Option Addr
  cC : Nat
  rea : List (List UInt8)
  rA : Option Addr
  rC : Nat
abbrev bndC (b : List UInt8 × VA) : List Value := strV b.1 :: b.2.cells
abbrev CA.tl (c : CA) : List Value := [.slice c.vA c.vals.length c.vC, .slice c.oA c.opn.length c.oC, .slice c.cA c.clo.length c.cC, .slice c.rA c.rea.length c.rC]
abbrev CA.cells (c : CA) : List Value := [strV c.name, strV c.typ, .int .i64 c.cnt] ++ (dc c.ch ++ c.tl)
def CA.bind (c : CA) : List (List UInt8 × Val) := c.vals.map fun b => (b.1, b.2.v)
structure CA.Ok (w0 : World) (G : List Seg) (c : CA) : Prop where
  h32 : c.ch.length = 32
  vok : ∀ b ∈ c.vals, b.2.Ok w0 G
  vr : Rc w0 G c.vA (c.vals.map bndC).flatten
  vn : c.vals.length ≤ 9223372036854775807
  opr : Rc w0 G c.oA (c.opn.map strV)
  opl : c.opn.length ≤ 9223372036854775807
  clr : Rc w0 G c.cA (c.clo.map strV)
  cll : c.clo.length ≤ 9223372036854775807
  rer : Rc w0 G c.rA (c.rea.map strV)
  rel : c.rea.length ≤ 9223372036854775807
theorem ca_at {c : CA} (h : c.ch.length = 32) (k : Nat) : c.cells[35 + k]? = c.tl[k]? := by
  rw [List.getElem?_append_right (by show 3 ≤ 35 + k; omega), List.getElem?_append_right (by rw [dc_length, h]; show 32 ≤ 35 + k - 3; omega), dc_length, h]
  congr 1
  show 35 + k - 3 - 32 = k
  omega
theorem ca_len {c : CA} (h : c.ch.length = 32) : c.cells.length = 39 := by
  rw [List.length_append, List.length_append, dc_length, h]; rfl
theorem en_len {n : Int} {ch : List UInt8} (h : ch.length = 32) : (Value.int .i64 n :: dc ch).length = 33 := by rw [List.length_cons, dc_length, h]
theorem strB_t {a b : List UInt8} (h : strB .eql a b = true) : a = b := by unfold strB at h; simpa using h
theorem strB_f {a b : List UInt8} (h : strB .eql a b = false) : ¬ a = b := by unfold strB at h; simpa using h
theorem not_in_take {α : Type} {l : List α} {i : Nat} {x y : α} (h : ¬ x ∈ l.take i) (hi : l[i]? = some y) (hn : ¬ x = y) : ¬ x ∈ l.take (i + 1) := by
  rw [List.take_add_one, hi]
  simp only [Option.toList_some, List.mem_append, List.mem_singleton, not_or]
  exact ⟨h, hn⟩
theorem held_at {c : CA} {i : Nat} {b : List UInt8 × VA} {nm : List UInt8} (h : (c.bind.take i).find? (fun b => decide (b.1 = nm)) = none) (hi : c.vals[i]? = some b) (hb : b.1 = nm) : heldV c.bind nm = b.2.v := by
  have h1 : c.bind[i]? = some (b.1, b.2.v) := by unfold CA.bind; rw [List.getElem?_map, hi]; rfl
  obtain ⟨hlt, he⟩ := List.getElem?_eq_some_iff.1 h1
  unfold heldV
  rw [← List.take_append_drop i c.bind, List.find?_append, h, List.drop_eq_getElem_cons hlt, he, List.find?_cons]
  simp [hb]
theorem held_step {c : CA} {i : Nat} {b : List UInt8 × VA} {nm : List UInt8} (h : (c.bind.take i).find? (fun b => decide (b.1 = nm)) = none) (hi : c.vals[i]? = some b) (hb : ¬ b.1 = nm) : (c.bind.take (i + 1)).find? (fun b => decide (b.1 = nm)) = none := by
  have h1 : c.bind[i]? = some (b.1, b.2.v) := by unfold CA.bind; rw [List.getElem?_map, hi]; rfl
  rw [List.take_add_one, h1, List.find?_append, h]
  simp [hb]
theorem held_no {c : CA} {nm : List UInt8} (h : (c.bind.take c.vals.length).find? (fun b => decide (b.1 = nm)) = none) : heldV c.bind nm = noVal := by
  have e : c.bind.take c.vals.length = c.bind := List.take_of_length_le (by unfold CA.bind; rw [List.length_map]; exact Nat.le_refl _)
  rw [e] at h
  unfold heldV
  rw [h]
  rfl
theorem flat_cell {W V : List Value} {i z k : Nat} (h : (W.drop i).take z = V) (hk : k < V.length) : W[i + k]? = V[k]? := by
  subst h
  have hz : k < z := Nat.lt_of_lt_of_le hk (by rw [List.length_take]; omega)
  rw [List.getElem?_take, if_pos hz, List.getElem?_drop]
theorem flat_part {W V : List Value} {i z k m : Nat} (h : (W.drop i).take z = V) (hk : k + m = z) : (W.drop (i + k)).take m = V.drop k := by
  subst h
  rw [List.drop_take, List.drop_drop]
  congr 1
  omega
def noVA : VA := ⟨noVal, none, 0⟩
theorem noVA_ok {w0 : World} {G : List Seg} : noVA.Ok w0 G := ⟨fun h => absurd rfl h, by decide, noVal_in⟩

set_option maxRecDepth 100000 in
set_option maxHeartbeats 8000000 in
theorem st_index {w0 : World} {R : List Seg} {G : List Seg} (A : Option Addr) (l : List (List UInt8)) (c : Nat) (nm : List UInt8) (w : World) (hS : Rc w0 G A (l.map strV)) (hG : G ⊆ R) (hn : l.length ≤ 9223372036854775807) (hA : Hp w0 R w) : Calls Tryz.prog 146 #[.slice A l.length c, strV nm] w fun e w' => ∃ k : Int, e = .returned (.int .i64 k) ∧ decide (0 ≤ k) = decide (nm ∈ l) ∧ Hp w0 R w' := by
  refine vc_enter Tryz.func146 rfl Tryz.ntmps146 (Nat.le_of_ble_eq_true rfl) (fun a hF => ?_)
  apply wp_seq_k; intro K1 hK1
  refine wp_region_lit ?_
  refine vc_y hF rfl rfl (by decide) _ (y_assign rfl rfl) (fun a hF => ?_)
  refine vc_nil ?_
  refine hK1 _ _ ?_; clear  hK1 K1
  apply wp_seq_k; intro K2 hK2
  apply wp_seq_k; intro K3 hK3
  refine wp_region_lit ?_
  refine vc_y hF rfl rfl (by decide) _ (y_move rfl rfl) (fun a hF => ?_)
  refine vc_y hF rfl rfl (by decide) _ (y_lenSl rfl Tryz.underlying23 rfl rfl) (fun a hF => ?_)
  refine vc_y hF rfl rfl (by decide) _ (y_move rfl rfl) (fun a hF => ?_)
  refine vc_nil ?_
  refine hK3 _ _ ?_; clear  hK3 K3
  apply wp_block
  refine vc_loop (G := Nat) (fun i a x => i ≤ l.length ∧ ¬ nm ∈ l.take i ∧ Fr 19 [(8, .int .i64 (i : Int)), (0, .slice A l.length c), (1, strV nm), (7, .int .i64 l.length)] a ∧ Hp w0 (R) x) (fun i => l.length - i) 0 (⟨Nat.zero_le _, (by simp), hF.keep [8, 0, 1, 7] rfl, hA⟩) ?_
  clear hF
  rintro i a w2 ⟨hi, hno, hF, hA1⟩
  apply wp_seq_k; intro K4 hK4
  refine wp_region_lit ?_
  refine vc_y hF rfl rfl (by decide) _ (y_cmp rfl rfl rfl rfl rfl) (fun a hF => ?_)
  refine vc_nil ?_
  refine hK4 _ _ ?_; clear  hK4 K4
  apply wp_seq_k; intro K5 hK5
  by_cases hlt : i < l.length
  · refine vc_trueB hF rfl (lss_t (by omega)) ?_
    obtain ⟨q, hpq⟩ : ∃ q, l[i]? = some q := ⟨_, List.getElem?_eq_getElem hlt⟩
    obtain ⟨bq, oq, hsq, hcq⟩ := hS.ne (i := i) (by rw [List.length_map]; exact hlt)
    rw [hsq] at hF
    apply wp_skip
    refine hK5 _ _ ?_; clear  hK5 K5
    apply wp_seq_k; intro K6 hK6
    apply wp_block
    apply wp_seq_k; intro K7 hK7
    refine wp_region_lit ?_
    refine vc_y hF rfl rfl (by decide) _ (y_move rfl rfl) (fun a hF => ?_)
    refine vc_y hF rfl rfl (by decide) _ (y_assign rfl rfl) (fun a hF => ?_)
    refine vc_nil ?_
    refine hK7 _ _ ?_; clear  hK7 K7
    apply wp_seq_k; intro K8 hK8
    refine wp_region_lit ?_
    refine vc_y hF rfl rfl (by decide) _ (y_move rfl rfl) (fun a hF => ?_)
    refine vc_y hF rfl rfl (by decide) _ (y_move rfl rfl) (fun a hF => ?_)
    refine vc_y hF rfl rfl (by decide) _ (y_move rfl rfl) (fun a hF => ?_)
    refine vc_y hF rfl rfl (by decide) _ (y_ixSl rfl Tryz.underlying23 sz9_v12 rfl rfl i rfl hlt (ad2 _ _ _)) (fun a hF => ?_)
    refine vc_y hF rfl rfl (by decide) _ (y_ldC (u := strV q) rfl (Hq.sub hA1.q (List.Subset.trans hG (sub0))) rfl hcq i (by rw [List.length_map]; exact hlt) rfl (by rw [List.getElem?_map, hpq]; rfl) nr9_v12) (fun a hF => ?_)
    refine vc_y hF rfl rfl (by decide) _ (y_cmpS rfl rfl rfl rfl rfl) (fun a hF => ?_)
    refine vc_nil ?_
    refine hK8 _ _ ?_; clear  hK8 K8
    rcases tf (strB .eql nm q) with hq | hq
    · refine vc_falseB hF rfl hq ?_
      apply wp_skip
      refine hK6 _ _ ?_; clear  hK6 K6
      refine wp_region_lit ?_
      refine vc_y hF rfl rfl (by decide) _ (y_add rfl rfl rfl (IntWalk.i64_in _ (by omega))) (fun a hF => ?_)
      refine vc_y hF rfl rfl (by decide) _ (y_move rfl rfl) (fun a hF => ?_)
      refine vc_nil ?_
      rw [← hsq] at hF
      exact ⟨i + 1, by omega, by omega, not_in_take hno hpq (strB_f hq), hF.keep [8, 0, 1, 7] rfl, hA1⟩
    · refine vc_trueB hF rfl hq ?_
      apply wp_seq_k; intro K9 hK9
      refine wp_region_lit ?_
      refine vc_y hF rfl rfl (by decide) _ (y_move rfl rfl) (fun a hF => ?_)
      refine vc_y hF rfl rfl (by decide) _ (y_assign rfl rfl) (fun a hF => ?_)
      refine vc_nil ?_
      refine hK9 _ _ ?_; clear  hK9 K9
      apply wp_ret
      simp only [Exit.then, Exit.inBlock]
      refine vc_ret1 hF Tryz.results146 rfl ?_
      exact ⟨_, rfl, by rw [decide_eq_true (show nm ∈ l from strB_t hq ▸ List.mem_of_getElem? hpq)]; exact decide_eq_true (by omega), hA1⟩
  · refine vc_falseB hF rfl (lss_f (by omega)) ?_
    obtain rfl : i = l.length := by omega
    rw [List.take_length] at hno
    apply wp_exit
    refine hK2 _ _ ?_; clear hK5 K5 hK2 K2
    apply wp_seq_k; intro K10 hK10
    refine wp_region_lit ?_
    refine vc_y hF rfl rfl (by decide) _ (y_assign rfl rfl) (fun a hF => ?_)
    refine vc_nil ?_
    refine hK10 _ _ ?_; clear  hK10 K10
    apply wp_ret
    refine vc_ret1 hF Tryz.results146 rfl ?_
    exact ⟨_, rfl, by rw [decide_eq_false hno]; rfl, hA1⟩

set_option maxRecDepth 100000 in
set_option maxHeartbeats 8000000 in
theorem st_contains {w0 : World} {R : List Seg} {G : List Seg} (A : Option Addr) (l : List (List UInt8)) (c : Nat) (nm : List UInt8) (w : World) (hS : Rc w0 G A (l.map strV)) (hG : G ⊆ R) (hn : l.length ≤ 9223372036854775807) (hA : Hp w0 R w) : Calls Tryz.prog 90 #[.slice A l.length c, strV nm] w fun e w' => e = .returned (.bool (decide (nm ∈ l))) ∧ Hp w0 R w' := by
  refine vc_enter Tryz.func90 rfl Tryz.ntmps90 (Nat.le_of_ble_eq_true rfl) (fun a hF => ?_)
  apply wp_seq_k; intro K1 hK1
  refine wp_region_lit ?_
  refine vc_y hF rfl rfl (by decide) _ (y_assign rfl rfl) (fun a hF => ?_)
  refine vc_nil ?_
  refine hK1 _ _ ?_; clear  hK1 K1
  apply wp_seq_k; intro K2 hK2
  refine wp_region_lit ?_
  refine vc_y hF rfl rfl (by decide) _ (y_move rfl rfl) (fun a hF => ?_)
  refine vc_y hF rfl rfl (by decide) _ (y_move rfl rfl) (fun a hF => ?_)
  refine vc_op rfl (fun K hK => ws_call hF rfl (by decide) cl146_v12 rfl rfl ?_)
  with_reducible refine (st_index A l c nm _ hS (List.Subset.trans hG (sub0)) hn hA ).mono ?_
  rintro e' w1 ⟨k, rfl, hk, hA2⟩
  refine ⟨_, rfl, fun a hF => hK _ _ ?_⟩
  clear hK K
  replace hA2 : Hp w0 (R) w1 := hA2
  refine vc_y hF rfl rfl (by decide) _ (y_cmp rfl rfl rfl rfl (hk)) (fun a hF => ?_)
  refine vc_y hF rfl rfl (by decide) _ (y_assign rfl rfl) (fun a hF => ?_)
  refine vc_nil ?_
  refine hK2 _ _ ?_; clear  hK2 K2
  apply wp_ret
  refine vc_ret1 hF Tryz.results90 rfl ?_
  exact ⟨rfl, hA2⟩

set_option maxRecDepth 100000 in
set_option maxHeartbeats 8000000 in
theorem st_among {w0 : World} {R : List Seg} {G : List Seg} (A : Option Addr) (l : List (List UInt8)) (c : Nat) (nm : List UInt8) (w : World) (hS : Rc w0 G A (l.map strV)) (hG : G ⊆ R) (hn : l.length ≤ 9223372036854775807) (hA : Hp w0 R w) : Calls Tryz.prog 28 #[.slice A l.length c, strV nm] w fun e w' => e = .returned (.bool (decide (nm ∈ l))) ∧ Hp w0 R w' := by
  refine vc_enter Tryz.func28 rfl Tryz.ntmps28 (Nat.le_of_ble_eq_true rfl) (fun a hF => ?_)
  apply wp_seq_k; intro K1 hK1
  refine wp_region_lit ?_
  refine vc_y hF rfl rfl (by decide) _ (y_assign rfl rfl) (fun a hF => ?_)
  refine vc_nil ?_
  refine hK1 _ _ ?_; clear  hK1 K1
  apply wp_seq_k; intro K2 hK2
  apply wp_seq_k; intro K3 hK3
  refine wp_region_lit ?_
  refine vc_y hF rfl rfl (by decide) _ (y_assign rfl rfl) (fun a hF => ?_)
  refine vc_nil ?_
  refine hK3 _ _ ?_; clear  hK3 K3
  apply wp_block
  refine vc_loop (G := Nat) (fun i a x => i ≤ l.length ∧ ¬ nm ∈ l.take i ∧ Fr 18 [(5, .int .i64 (i : Int)), (0, .slice A l.length c), (1, strV nm)] a ∧ Hp w0 (R) x) (fun i => l.length - i) 0 (⟨Nat.zero_le _, (by simp), hF.keep [5, 0, 1] rfl, hA⟩) ?_
  clear hF
  rintro i a w2 ⟨hi, hno, hF, hA1⟩
  apply wp_seq_k; intro K4 hK4
  apply wp_seq_k; intro K5 hK5
  refine wp_region_lit ?_
  refine vc_y hF rfl rfl (by decide) _ (y_move rfl rfl) (fun a hF => ?_)
  refine vc_y hF rfl rfl (by decide) _ (y_move rfl rfl) (fun a hF => ?_)
  refine vc_y hF rfl rfl (by decide) _ (y_lenSl rfl Tryz.underlying23 rfl rfl) (fun a hF => ?_)
  refine vc_y hF rfl rfl (by decide) _ (y_cmp rfl rfl rfl rfl rfl) (fun a hF => ?_)
  refine vc_nil ?_
  refine hK5 _ _ ?_; clear  hK5 K5
  by_cases hlt : i < l.length
  · refine vc_trueB hF rfl (lss_t (by omega)) ?_
    obtain ⟨q, hpq⟩ : ∃ q, l[i]? = some q := ⟨_, List.getElem?_eq_getElem hlt⟩
    obtain ⟨bq, oq, hsq, hcq⟩ := hS.ne (i := i) (by rw [List.length_map]; exact hlt)
    rw [hsq] at hF
    apply wp_skip
    refine hK4 _ _ ?_; clear  hK4 K4
    apply wp_seq_k; intro K6 hK6
    apply wp_block
    apply wp_seq_k; intro K7 hK7
    refine wp_region_lit ?_
    refine vc_y hF rfl rfl (by decide) _ (y_move rfl rfl) (fun a hF => ?_)
    refine vc_y hF rfl rfl (by decide) _ (y_move rfl rfl) (fun a hF => ?_)
    refine vc_y hF rfl rfl (by decide) _ (y_ixSl rfl Tryz.underlying23 sz9_v12 rfl rfl i rfl hlt (ad2 _ _ _)) (fun a hF => ?_)
    refine vc_y hF rfl rfl (by decide) _ (y_ldC (u := strV q) rfl (Hq.sub hA1.q (List.Subset.trans hG (sub0))) rfl hcq i (by rw [List.length_map]; exact hlt) rfl (by rw [List.getElem?_map, hpq]; rfl) nr9_v12) (fun a hF => ?_)
    refine vc_y hF rfl rfl (by decide) _ (y_move rfl rfl) (fun a hF => ?_)
    refine vc_y hF rfl rfl (by decide) _ (y_cmpS rfl rfl rfl rfl rfl) (fun a hF => ?_)
    refine vc_nil ?_
    refine hK7 _ _ ?_; clear  hK7 K7
    rcases tf (strB .eql q nm) with hq | hq
    · refine vc_falseB hF rfl hq ?_
      apply wp_skip
      refine hK6 _ _ ?_; clear  hK6 K6
      refine wp_region_lit ?_
      refine vc_y hF rfl rfl (by decide) _ (y_move rfl rfl) (fun a hF => ?_)
      refine vc_y hF rfl rfl (by decide) _ (y_add rfl rfl rfl (IntWalk.i64_in _ (by omega))) (fun a hF => ?_)
      refine vc_y hF rfl rfl (by decide) _ (y_assign rfl rfl) (fun a hF => ?_)
      refine vc_nil ?_
      rw [← hsq] at hF
      exact ⟨i + 1, by omega, by omega, not_in_take hno hpq (fun e => strB_f hq e.symm), hF.keep [5, 0, 1] rfl, hA1⟩
    · refine vc_trueB hF rfl hq ?_
      apply wp_seq_k; intro K8 hK8
      refine wp_region_lit ?_
      refine vc_y hF rfl rfl (by decide) _ (y_assign rfl rfl) (fun a hF => ?_)
      refine vc_nil ?_
      refine hK8 _ _ ?_; clear  hK8 K8
      apply wp_ret
      simp only [Exit.then, Exit.inBlock]
      refine vc_ret1 hF Tryz.results28 rfl ?_
      exact ⟨by rw [decide_eq_true (show nm ∈ l from (strB_t hq) ▸ List.mem_of_getElem? hpq)], hA1⟩
  · refine vc_falseB hF rfl (lss_f (by omega)) ?_
    obtain rfl : i = l.length := by omega
    rw [List.take_length] at hno
    apply wp_exit
    refine hK2 _ _ ?_; clear hK4 K4 hK2 K2
    apply wp_seq_k; intro K9 hK9
    refine wp_region_lit ?_
    refine vc_y hF rfl rfl (by decide) _ (y_assign rfl rfl) (fun a hF => ?_)
    refine vc_nil ?_
    refine hK9 _ _ ?_; clear  hK9 K9
    apply wp_ret
    refine vc_ret1 hF Tryz.results28 rfl ?_
    exact ⟨by rw [decide_eq_false hno], hA1⟩

set_option maxRecDepth 100000 in
set_option maxHeartbeats 8000000 in
theorem st_held {w0 : World} {R : List Seg} {G : List Seg} (ca : CA) (nm : List UInt8) (w : World) (hC : ca.Ok w0 G) (hG : G ⊆ R) (hA : Hp w0 R w) : Calls Tryz.prog 89 #[.agg ca.cells.toArray, strV nm] w fun e w' => ∃ va : VA, e = .returned (.agg va.cells.toArray) ∧ va.v = heldV ca.bind nm ∧ va.Ok w0 G ∧ Hp w0 R w' := by
  have h32 := hC.h32
  have hvn := hC.vn
  refine vc_enter Tryz.func89 rfl Tryz.ntmps89 (Nat.le_of_ble_eq_true rfl) (fun a hF => ?_)
  apply wp_seq_k; intro K1 hK1
  refine wp_region_lit ?_
  refine vc_op rfl (fun K hK => hs_box (cs := ca.cells) hF rfl (by decide) rfl hA rfl (fun b1 w2 a hb1 hF hA3 => hK _ _ ?_))
  clear hK K
  replace hA3 : Hp w0 ([row b1 52 ca.cells] :: R) w2 := hA3
  refine vc_op rfl (fun K hK => hs_alloc hF rfl (by decide) rfl hA3 (zr25_v12) (fun b4 w5 a hb4 hF hA6 => hK _ _ ?_))
  clear hK K
  replace hA6 : Hp w0 ([row b4 25 [.int .i64 0, .int .i64 0, .string (⟨#[]⟩), .slice none 0 0]] :: [row b1 52 ca.cells] :: R) w5 := hA6
  refine vc_nil ?_
  refine hK1 _ _ ?_; clear  hK1 K1
  apply wp_seq_k; intro K2 hK2
  apply wp_seq_k; intro K3 hK3
  refine wp_region_lit ?_
  refine vc_y hF rfl rfl (by decide) _ (y_field rfl Tryz.underlying52 rfl sz50_v12 (by decide) rfl (rfl : (⟨_, 0 + _, none⟩ : Addr) = ⟨_, 35, none⟩)) (fun a hF => ?_)
  refine vc_y hF rfl rfl (by decide) _ (y_ld (u := .slice ca.vA ca.vals.length ca.vC) rfl hA6.q rfl 1 rfl (ca_at h32 0) nr50_v12) (fun a hF => ?_)
  refine vc_y hF rfl rfl (by decide) _ (y_lenSl rfl Tryz.underlying50 rfl rfl) (fun a hF => ?_)
  refine vc_y hF rfl rfl (by decide) _ (y_move rfl rfl) (fun a hF => ?_)
  refine vc_nil ?_
  refine hK3 _ _ ?_; clear  hK3 K3
  apply wp_block
  refine vc_loop (G := Nat) (fun i a x => i ≤ ca.vals.length ∧ (ca.bind.take i).find? (fun b => decide (b.1 = nm)) = none ∧ Fr 22 [(10, .int .i64 (i : Int)), (1, strV nm), (4, .pointer (some ⟨b4, 0, none⟩)), (8, .slice ca.vA ca.vals.length ca.vC), (9, .int .i64 ca.vals.length)] a ∧ Hp w0 ([row b4 25 [.int .i64 0, .int .i64 0, .string (⟨#[]⟩), .slice none 0 0]] :: [row b1 52 ca.cells] :: R) x) (fun i => ca.vals.length - i) 0 (⟨Nat.zero_le _, rfl, hF.keep [10, 1, 4, 8, 9] rfl, hA6⟩) ?_
  clear hF
  rintro i a w8 ⟨hi, hno, hF, hA7⟩
  apply wp_seq_k; intro K4 hK4
  refine wp_region_lit ?_
  refine vc_y hF rfl rfl (by decide) _ (y_cmp rfl rfl rfl rfl rfl) (fun a hF => ?_)
  refine vc_nil ?_
  refine hK4 _ _ ?_; clear  hK4 K4
  apply wp_seq_k; intro K5 hK5
  by_cases hlt : i < ca.vals.length
  · refine vc_trueB hF rfl (lss_t (by omega)) ?_
    obtain ⟨⟨bn, va⟩, hp⟩ : ∃ q, ca.vals[i]? = some q := ⟨_, List.getElem?_eq_getElem hlt⟩
    obtain ⟨hat, hle⟩ := Go.Dk.flat_at (z := 5) (Ws := ca.vals.map bndC) (V := bndC (bn, va)) (i := i) (fun V hV => by obtain ⟨u, _, rfl⟩ := List.mem_map.1 hV; rfl) (by rw [List.getElem?_map, hp]; rfl)
    obtain ⟨b, o, hsA, hc⟩ := hC.vr.ne (i := i * 5) (by omega)
    have hva := hC.vok _ (List.mem_of_getElem? hp)
    rw [hsA] at hF
    apply wp_skip
    refine hK5 _ _ ?_; clear  hK5 K5
    apply wp_seq_k; intro K6 hK6
    apply wp_block
    apply wp_seq_k; intro K7 hK7
    refine wp_region_lit ?_
    refine vc_y hF rfl rfl (by decide) _ (y_ixSl rfl Tryz.underlying50 sz76_v12 rfl rfl i rfl hlt rfl) (fun a hF => ?_)
    refine vc_y hF rfl rfl (by decide) _ (y_ldRowC (new := bndC (bn, va)) rfl (Hq.sub hA7.q (List.Subset.trans hG (subC (subC (sub0))))) rfl hc (i * 5) hle rfl hat rw76_v12) (fun a hF => ?_)
    refine vc_op rfl (fun K hK => hs_alloc hF rfl (by decide) rfl hA7 (zr76_v12) (fun b9 w10 a hb9 hF hA11 => hK _ _ ?_))
    clear hK K
    replace hA11 : Hp w0 ([row b9 76 [.string (⟨#[]⟩), .int .i64 0, .int .i64 0, .string (⟨#[]⟩), .slice none 0 0]] :: [row b4 25 [.int .i64 0, .int .i64 0, .string (⟨#[]⟩), .slice none 0 0]] :: [row b1 52 ca.cells] :: R) w10 := hA11
    refine vc_op rfl (fun K hK => hs_storeAll (new := [strV bn, .int .i64 va.v.k, .int .i64 va.v.n, strV va.v.t, .slice va.sA va.v.s.length va.sC]) hF rfl rfl hA11 rfl rfl 0 rfl rfl (by simp [Value.oneCell']) sz76_v12 (fun w12 hA13 => hK _ _ ?_))
    clear hK K
    replace hA13 : Hp w0 ([row b9 76 [strV bn, .int .i64 va.v.k, .int .i64 va.v.n, strV va.v.t, .slice va.sA va.v.s.length va.sC]] :: [row b4 25 [.int .i64 0, .int .i64 0, .string (⟨#[]⟩), .slice none 0 0]] :: [row b1 52 ca.cells] :: R) w12 := hA13
    refine vc_nil ?_
    refine hK7 _ _ ?_; clear  hK7 K7
    apply wp_seq_k; intro K8 hK8
    refine wp_region_lit ?_
    refine vc_y hF rfl rfl (by decide) _ (y_field rfl Tryz.underlying76 rfl sz9_v12 (by decide) rfl (rfl : (⟨_, 0 + _, none⟩ : Addr) = ⟨_, 0, none⟩)) (fun a hF => ?_)
    refine vc_y hF rfl rfl (by decide) _ (y_ld rfl hA13.q rfl 0 rfl rfl nr9_v12) (fun a hF => ?_)
    refine vc_y hF rfl rfl (by decide) _ (y_move rfl rfl) (fun a hF => ?_)
    refine vc_y hF rfl rfl (by decide) _ (y_cmpS rfl rfl rfl rfl rfl) (fun a hF => ?_)
    refine vc_nil ?_
    refine hK8 _ _ ?_; clear  hK8 K8
    rcases tf (strB .eql bn nm) with hq | hq
    · refine vc_falseB hF rfl hq ?_
      apply wp_skip
      refine hK6 _ _ ?_; clear  hK6 K6
      refine wp_region_lit ?_
      refine vc_y hF rfl rfl (by decide) _ (y_add rfl rfl rfl (IntWalk.i64_in _ (by omega))) (fun a hF => ?_)
      refine vc_y hF rfl rfl (by decide) _ (y_move rfl rfl) (fun a hF => ?_)
      refine vc_nil ?_
      rw [← hsA] at hF
      have hA14 : Hp w0 ([row b4 25 [.int .i64 0, .int .i64 0, .string (⟨#[]⟩), .slice none 0 0]] :: [row b1 52 ca.cells] :: R) w12 := Hp.sel [[row b9 76 [strV bn, .int .i64 va.v.k, .int .i64 va.v.n, strV va.v.t, .slice va.sA va.v.s.length va.sC]], [row b4 25 [.int .i64 0, .int .i64 0, .string (⟨#[]⟩), .slice none 0 0]], [row b1 52 ca.cells]] R [1, 2] [0] hA13 rfl
      exact ⟨i + 1, by omega, by omega, held_step hno hp (strB_f hq), hF.keep [10, 1, 4, 8, 9] rfl, hA14⟩
    · refine vc_trueB hF rfl hq ?_
      apply wp_seq_k; intro K9 hK9
      refine wp_region_lit ?_
      refine vc_y hF rfl rfl (by decide) _ (y_field rfl Tryz.underlying76 rfl sz25_v12 (by decide) rfl (rfl : (⟨_, 0 + _, none⟩ : Addr) = ⟨_, 1, none⟩)) (fun a hF => ?_)
      refine vc_y hF rfl rfl (by decide) _ (y_ldRow (new := [.int .i64 va.v.k, .int .i64 va.v.n, strV va.v.t, .slice va.sA va.v.s.length va.sC]) rfl hA13.q rfl 0 rfl rw25_v12 (Nat.le_of_ble_eq_true rfl) rfl) (fun a hF => ?_)
      refine vc_op rfl (fun K hK => hs_storeAll (new := [.int .i64 va.v.k, .int .i64 va.v.n, strV va.v.t, .slice va.sA va.v.s.length va.sC]) hF rfl rfl hA13 rfl rfl 1 rfl rfl (by simp [Value.oneCell']) sz25_v12 (fun w15 hA16 => hK _ _ ?_))
      clear hK K
      replace hA16 : Hp w0 ([row b9 76 [strV bn, .int .i64 va.v.k, .int .i64 va.v.n, strV va.v.t, .slice va.sA va.v.s.length va.sC]] :: [row b4 25 [.int .i64 va.v.k, .int .i64 va.v.n, strV va.v.t, .slice va.sA va.v.s.length va.sC]] :: [row b1 52 ca.cells] :: R) w15 := hA16
      refine vc_nil ?_
      refine hK9 _ _ ?_; clear  hK9 K9
      apply wp_ret
      simp only [Exit.then, Exit.inBlock]
      refine vc_retR hF Tryz.results89 hA16.q rfl 1 rfl (by exact rw25_v12) ?_
      have hA17 : Hp w0 (R) w15 := Hp.sel [[row b9 76 [strV bn, .int .i64 va.v.k, .int .i64 va.v.n, strV va.v.t, .slice va.sA va.v.s.length va.sC]], [row b4 25 [.int .i64 va.v.k, .int .i64 va.v.n, strV va.v.t, .slice va.sA va.v.s.length va.sC]], [row b1 52 ca.cells]] R [] [0, 1, 2] hA16 rfl
      exact ⟨va, rfl, (held_at hno hp (strB_t hq)).symm, hva, hA17⟩
  · refine vc_falseB hF rfl (lss_f (by omega)) ?_
    obtain rfl : i = ca.vals.length := by omega
    apply wp_exit
    refine hK2 _ _ ?_; clear hK5 K5 hK2 K2
    apply wp_seq_k; intro K10 hK10
    refine wp_region_lit ?_
    refine vc_y hF rfl rfl (by decide) _ (y_build0 rfl ev_bV0) (fun a hF => ?_)
    refine vc_op rfl (fun K hK => hs_storeAll (new := [.int .i64 0, .int .i64 0, strV [], .slice none 0 0]) hF rfl rfl hA7 rfl rfl 0 rfl rfl (by simp [Value.oneCell']) sz25_v12 (fun w18 hA19 => hK _ _ ?_))
    clear hK K
    replace hA19 : Hp w0 ([row b4 25 [.int .i64 0, .int .i64 0, strV [], .slice none 0 0]] :: [row b1 52 ca.cells] :: R) w18 := hA19
    refine vc_nil ?_
    refine hK10 _ _ ?_; clear  hK10 K10
    apply wp_ret
    refine vc_retR hF Tryz.results89 hA19.q rfl 0 rfl (by exact rw25_v12) ?_
    have hA20 : Hp w0 (R) w18 := Hp.sel [[row b4 25 [.int .i64 0, .int .i64 0, strV [], .slice none 0 0]], [row b1 52 ca.cells]] R [] [0, 1] hA19 rfl
    exact ⟨noVA, rfl, (held_no hno).symm, noVA_ok, hA20⟩

set_option maxRecDepth 100000 in
set_option maxHeartbeats 8000000 in
theorem st_heldL {w0 : World} {R : List Seg} {G : List Seg} (ca : CA) (nm : List UInt8) (w : World) (hC : ca.Ok w0 G) (hG : G ⊆ R) (hA : Hp w0 R w) : Calls Tryz.prog 26 #[.agg ca.cells.toArray, strV nm] w fun e w' => ∃ va : VA, e = .returned (.agg va.cells.toArray) ∧ va.v = heldV ca.bind nm ∧ va.Ok w0 G ∧ Hp w0 R w' := by
  have h32 := hC.h32
  have hvn := hC.vn
  refine vc_enter Tryz.func26 rfl Tryz.ntmps26 (Nat.le_of_ble_eq_true rfl) (fun a hF => ?_)
  apply wp_seq_k; intro K1 hK1
  refine wp_region_lit ?_
  refine vc_op rfl (fun K hK => hs_box (cs := ca.cells) hF rfl (by decide) rfl hA rfl (fun b1 w2 a hb1 hF hA3 => hK _ _ ?_))
  clear hK K
  replace hA3 : Hp w0 ([row b1 52 ca.cells] :: R) w2 := hA3
  refine vc_op rfl (fun K hK => hs_alloc hF rfl (by decide) rfl hA3 (zr25_v12) (fun b4 w5 a hb4 hF hA6 => hK _ _ ?_))
  clear hK K
  replace hA6 : Hp w0 ([row b4 25 [.int .i64 0, .int .i64 0, .string (⟨#[]⟩), .slice none 0 0]] :: [row b1 52 ca.cells] :: R) w5 := hA6
  refine vc_nil ?_
  refine hK1 _ _ ?_; clear  hK1 K1
  apply wp_seq_k; intro K2 hK2
  apply wp_seq_k; intro K3 hK3
  refine wp_region_lit ?_
  refine vc_y hF rfl rfl (by decide) _ (y_assign rfl rfl) (fun a hF => ?_)
  refine vc_nil ?_
  refine hK3 _ _ ?_; clear  hK3 K3
  apply wp_block
  refine vc_loop (G := Nat) (fun i a x => i ≤ ca.vals.length ∧ (ca.bind.take i).find? (fun b => decide (b.1 = nm)) = none ∧ Fr 28 [(5, .int .i64 (i : Int)), (1, strV nm), (2, .pointer (some ⟨b1, 0, none⟩)), (4, .pointer (some ⟨b4, 0, none⟩))] a ∧ Hp w0 ([row b4 25 [.int .i64 0, .int .i64 0, .string (⟨#[]⟩), .slice none 0 0]] :: [row b1 52 ca.cells] :: R) x) (fun i => ca.vals.length - i) 0 (⟨Nat.zero_le _, rfl, hF.keep [5, 1, 2, 4] rfl, hA6⟩) ?_
  clear hF
  rintro i a w8 ⟨hi, hno, hF, hA7⟩
  apply wp_seq_k; intro K4 hK4
  apply wp_seq_k; intro K5 hK5
  refine wp_region_lit ?_
  refine vc_y hF rfl rfl (by decide) _ (y_move rfl rfl) (fun a hF => ?_)
  refine vc_y hF rfl rfl (by decide) _ (y_field rfl Tryz.underlying52 rfl sz50_v12 (by decide) rfl (rfl : (⟨_, 0 + _, none⟩ : Addr) = ⟨_, 35, none⟩)) (fun a hF => ?_)
  refine vc_y hF rfl rfl (by decide) _ (y_ld (u := .slice ca.vA ca.vals.length ca.vC) rfl hA7.q rfl 1 rfl (ca_at h32 0) nr50_v12) (fun a hF => ?_)
  refine vc_y hF rfl rfl (by decide) _ (y_lenSl rfl Tryz.underlying50 rfl rfl) (fun a hF => ?_)
  refine vc_y hF rfl rfl (by decide) _ (y_cmp rfl rfl rfl rfl rfl) (fun a hF => ?_)
  refine vc_nil ?_
  refine hK5 _ _ ?_; clear  hK5 K5
  by_cases hlt : i < ca.vals.length
  · refine vc_trueB hF rfl (lss_t (by omega)) ?_
    obtain ⟨⟨bn, va⟩, hp⟩ : ∃ q, ca.vals[i]? = some q := ⟨_, List.getElem?_eq_getElem hlt⟩
    obtain ⟨hat, hle⟩ := Go.Dk.flat_at (z := 5) (Ws := ca.vals.map bndC) (V := bndC (bn, va)) (i := i) (fun V hV => by obtain ⟨u, _, rfl⟩ := List.mem_map.1 hV; rfl) (by rw [List.getElem?_map, hp]; rfl)
    obtain ⟨b, o, hsA, hc⟩ := hC.vr.ne (i := i * 5) (by omega)
    have hva := hC.vok _ (List.mem_of_getElem? hp)
    apply wp_skip
    refine hK4 _ _ ?_; clear  hK4 K4
    apply wp_seq_k; intro K6 hK6
    apply wp_block
    apply wp_seq_k; intro K7 hK7
    refine wp_region_lit ?_
    refine vc_y hF rfl rfl (by decide) _ (y_field rfl Tryz.underlying52 rfl sz50_v12 (by decide) rfl (rfl : (⟨_, 0 + _, none⟩ : Addr) = ⟨_, 35, none⟩)) (fun a hF => ?_)
    refine vc_y hF rfl rfl (by decide) _ (y_ld (u := .slice (some ⟨b, o, none⟩) ca.vals.length ca.vC) rfl hA7.q rfl 1 rfl (by rw [← hsA]; exact ca_at h32 0) nr50_v12) (fun a hF => ?_)
    refine vc_y hF rfl rfl (by decide) _ (y_move rfl rfl) (fun a hF => ?_)
    refine vc_y hF rfl rfl (by decide) _ (y_ixSl rfl Tryz.underlying50 sz76_v12 rfl rfl i rfl hlt rfl) (fun a hF => ?_)
    refine vc_y hF rfl rfl (by decide) _ (y_field rfl Tryz.underlying76 rfl sz9_v12 (by decide) rfl rfl) (fun a hF => ?_)
    refine vc_y hF rfl rfl (by decide) _ (y_ldC (u := strV bn) rfl (Hq.sub hA7.q (List.Subset.trans hG (subC (subC (sub0))))) rfl hc (i * 5) (by omega) rfl (flat_cell (k := 0) hat (by show 0 < 5; decide)) nr9_v12) (fun a hF => ?_)
    refine vc_y hF rfl rfl (by decide) _ (y_move rfl rfl) (fun a hF => ?_)
    refine vc_y hF rfl rfl (by decide) _ (y_cmpS rfl rfl rfl rfl rfl) (fun a hF => ?_)
    refine vc_nil ?_
    refine hK7 _ _ ?_; clear  hK7 K7
    rcases tf (strB .eql bn nm) with hq | hq
    · refine vc_falseB hF rfl hq ?_
      apply wp_skip
      refine hK6 _ _ ?_; clear  hK6 K6
      refine wp_region_lit ?_
      refine vc_y hF rfl rfl (by decide) _ (y_move rfl rfl) (fun a hF => ?_)
      refine vc_y hF rfl rfl (by decide) _ (y_add rfl rfl rfl (IntWalk.i64_in _ (by omega))) (fun a hF => ?_)
      refine vc_y hF rfl rfl (by decide) _ (y_assign rfl rfl) (fun a hF => ?_)
      refine vc_nil ?_
      exact ⟨i + 1, by omega, by omega, held_step hno hp (strB_f hq), hF.keep [5, 1, 2, 4] rfl, hA7⟩
    · refine vc_trueB hF rfl hq ?_
      apply wp_seq_k; intro K8 hK8
      refine wp_region_lit ?_
      refine vc_y hF rfl rfl (by decide) _ (y_field rfl Tryz.underlying52 rfl sz50_v12 (by decide) rfl (rfl : (⟨_, 0 + _, none⟩ : Addr) = ⟨_, 35, none⟩)) (fun a hF => ?_)
      refine vc_y hF rfl rfl (by decide) _ (y_ld (u := .slice (some ⟨b, o, none⟩) ca.vals.length ca.vC) rfl hA7.q rfl 1 rfl (by rw [← hsA]; exact ca_at h32 0) nr50_v12) (fun a hF => ?_)
      refine vc_y hF rfl rfl (by decide) _ (y_move rfl rfl) (fun a hF => ?_)
      refine vc_y hF rfl rfl (by decide) _ (y_ixSl rfl Tryz.underlying50 sz76_v12 rfl rfl i rfl hlt rfl) (fun a hF => ?_)
      refine vc_y hF rfl rfl (by decide) _ (y_field rfl Tryz.underlying76 rfl sz25_v12 (by decide) rfl rfl) (fun a hF => ?_)
      refine vc_y hF rfl rfl (by decide) _ (y_ldRowC (new := va.cells) rfl (Hq.sub hA7.q (List.Subset.trans hG (subC (subC (sub0))))) rfl hc (i * 5 + 1) (by omega) (Nat.add_assoc ..) (flat_part (k := 1) hat rfl) rw25_v12) (fun a hF => ?_)
      refine vc_op rfl (fun K hK => hs_storeAll (new := [.int .i64 va.v.k, .int .i64 va.v.n, strV va.v.t, .slice va.sA va.v.s.length va.sC]) hF rfl rfl hA7 rfl rfl 0 rfl rfl (by simp [Value.oneCell']) sz25_v12 (fun w9 hA10 => hK _ _ ?_))
      clear hK K
      replace hA10 : Hp w0 ([row b4 25 [.int .i64 va.v.k, .int .i64 va.v.n, strV va.v.t, .slice va.sA va.v.s.length va.sC]] :: [row b1 52 ca.cells] :: R) w9 := hA10
      refine vc_nil ?_
      refine hK8 _ _ ?_; clear  hK8 K8
      apply wp_ret
      simp only [Exit.then, Exit.inBlock]
      refine vc_retR hF Tryz.results26 hA10.q rfl 0 rfl (by exact rw25_v12) ?_
      have hA11 : Hp w0 (R) w9 := Hp.sel [[row b4 25 [.int .i64 va.v.k, .int .i64 va.v.n, strV va.v.t, .slice va.sA va.v.s.length va.sC]], [row b1 52 ca.cells]] R [] [0, 1] hA10 rfl
      exact ⟨va, rfl, (held_at hno hp (strB_t hq)).symm, hva, hA11⟩
  · refine vc_falseB hF rfl (lss_f (by omega)) ?_
    obtain rfl : i = ca.vals.length := by omega
    apply wp_exit
    refine hK2 _ _ ?_; clear hK4 K4 hK2 K2
    apply wp_seq_k; intro K9 hK9
    refine wp_region_lit ?_
    refine vc_y hF rfl rfl (by decide) _ (y_build0 rfl ev_bV0) (fun a hF => ?_)
    refine vc_op rfl (fun K hK => hs_storeAll (new := [.int .i64 0, .int .i64 0, strV [], .slice none 0 0]) hF rfl rfl hA7 rfl rfl 0 rfl rfl (by simp [Value.oneCell']) sz25_v12 (fun w12 hA13 => hK _ _ ?_))
    clear hK K
    replace hA13 : Hp w0 ([row b4 25 [.int .i64 0, .int .i64 0, strV [], .slice none 0 0]] :: [row b1 52 ca.cells] :: R) w12 := hA13
    refine vc_nil ?_
    refine hK9 _ _ ?_; clear  hK9 K9
    apply wp_ret
    refine vc_retR hF Tryz.results26 hA13.q rfl 0 rfl (by exact rw25_v12) ?_
    have hA14 : Hp w0 (R) w12 := Hp.sel [[row b4 25 [.int .i64 0, .int .i64 0, strV [], .slice none 0 0]], [row b1 52 ca.cells]] R [] [0, 1] hA13 rfl
    exact ⟨noVA, rfl, (held_no hno).symm, noVA_ok, hA14⟩

set_option maxRecDepth 100000 in
set_option maxHeartbeats 8000000 in
theorem st_life {w0 : World} {R : List Seg} {G : List Seg} (ca : CA) (nm : List UInt8) (w : World) (hC : ca.Ok w0 G) (hG : G ⊆ R) (hA : Hp w0 R w) : Calls Tryz.prog 27 #[.agg ca.cells.toArray, strV nm] w fun e w' => e = .returned (.int .i64 (lifeN ca.opn ca.clo nm : Nat)) ∧ Hp w0 R w' := by
  have h32 := hC.h32
  refine vc_enter Tryz.func27 rfl Tryz.ntmps27 (Nat.le_of_ble_eq_true rfl) (fun a hF => ?_)
  apply wp_seq_k; intro K1 hK1
  refine wp_region_lit ?_
  refine vc_op rfl (fun K hK => hs_box (cs := ca.cells) hF rfl (by decide) rfl hA rfl (fun b1 w2 a hb1 hF hA3 => hK _ _ ?_))
  clear hK K
  replace hA3 : Hp w0 ([row b1 52 ca.cells] :: R) w2 := hA3
  refine vc_y hF rfl rfl (by decide) _ (y_assign rfl rfl) (fun a hF => ?_)
  refine vc_nil ?_
  refine hK1 _ _ ?_; clear  hK1 K1
  apply wp_seq_k; intro K2 hK2
  apply wp_seq_k; intro K3 hK3
  refine wp_region_lit ?_
  refine vc_y hF rfl rfl (by decide) _ (y_field rfl Tryz.underlying52 rfl sz23_v12 (by decide) rfl (rfl : (⟨_, 0 + _, none⟩ : Addr) = ⟨_, 36, none⟩)) (fun a hF => ?_)
  refine vc_y hF rfl rfl (by decide) _ (y_ld (u := .slice ca.oA ca.opn.length ca.oC) rfl hA3.q rfl 0 rfl (ca_at h32 1) nr23_v12) (fun a hF => ?_)
  refine vc_y hF rfl rfl (by decide) _ (y_move rfl rfl) (fun a hF => ?_)
  refine vc_op rfl (fun K hK => ws_call hF rfl (by decide) cl28_v12 rfl rfl ?_)
  with_reducible refine (st_among ca.oA ca.opn ca.oC nm _ hC.opr (List.Subset.trans hG (subC (sub0))) hC.opl hA3 ).mono ?_
  rintro e' w4 ⟨rfl, hA5⟩
  refine ⟨_, rfl, fun a hF => hK _ _ ?_⟩
  clear hK K
  replace hA5 : Hp w0 ([row b1 52 ca.cells] :: R) w4 := hA5
  refine vc_nil ?_
  refine hK3 _ _ ?_; clear  hK3 K3
  by_cases h1 : nm ∈ ca.opn
  · refine vc_trueB hF rfl (decide_eq_true h1) ?_
    apply wp_seq_k; intro K4 hK4
    refine wp_region_lit ?_
    refine vc_y hF rfl rfl (by decide) _ (y_assign rfl rfl) (fun a hF => ?_)
    refine vc_nil ?_
    refine hK4 _ _ ?_; clear  hK4 K4
    apply wp_ret
    simp only [Exit.then]
    refine vc_ret1 hF Tryz.results27 rfl ?_
    have hA6 : Hp w0 (R) w4 := Hp.sel [[row b1 52 ca.cells]] R [] [0] hA5 rfl
    exact ⟨by rw [show lifeN ca.opn ca.clo nm = 1 from if_pos h1]; rfl, hA6⟩
  · refine vc_falseB hF rfl (decide_eq_false h1) ?_
    apply wp_skip
    refine hK2 _ _ ?_; clear  hK2 K2
    apply wp_seq_k; intro K5 hK5
    apply wp_seq_k; intro K6 hK6
    refine wp_region_lit ?_
    refine vc_y hF rfl rfl (by decide) _ (y_field rfl Tryz.underlying52 rfl sz23_v12 (by decide) rfl (rfl : (⟨_, 0 + _, none⟩ : Addr) = ⟨_, 37, none⟩)) (fun a hF => ?_)
    refine vc_y hF rfl rfl (by decide) _ (y_ld (u := .slice ca.cA ca.clo.length ca.cC) rfl hA5.q rfl 0 rfl (ca_at h32 2) nr23_v12) (fun a hF => ?_)
    refine vc_y hF rfl rfl (by decide) _ (y_move rfl rfl) (fun a hF => ?_)
    refine vc_op rfl (fun K hK => ws_call hF rfl (by decide) cl28_v12 rfl rfl ?_)
    with_reducible refine (st_among ca.cA ca.clo ca.cC nm _ hC.clr (List.Subset.trans hG (subC (sub0))) hC.cll hA5 ).mono ?_
    rintro e' w7 ⟨rfl, hA8⟩
    refine ⟨_, rfl, fun a hF => hK _ _ ?_⟩
    clear hK K
    replace hA8 : Hp w0 ([row b1 52 ca.cells] :: R) w7 := hA8
    refine vc_nil ?_
    refine hK6 _ _ ?_; clear  hK6 K6
    by_cases h2 : nm ∈ ca.clo
    · refine vc_trueB hF rfl (decide_eq_true h2) ?_
      apply wp_seq_k; intro K7 hK7
      refine wp_region_lit ?_
      refine vc_y hF rfl rfl (by decide) _ (y_assign rfl rfl) (fun a hF => ?_)
      refine vc_nil ?_
      refine hK7 _ _ ?_; clear  hK7 K7
      apply wp_ret
      simp only [Exit.then]
      refine vc_ret1 hF Tryz.results27 rfl ?_
      have hA9 : Hp w0 (R) w7 := Hp.sel [[row b1 52 ca.cells]] R [] [0] hA8 rfl
      exact ⟨by rw [show lifeN ca.opn ca.clo nm = 2 from (if_neg h1).trans (if_pos h2)]; rfl, hA9⟩
    · refine vc_falseB hF rfl (decide_eq_false h2) ?_
      apply wp_skip
      refine hK5 _ _ ?_; clear  hK5 K5
      apply wp_seq_k; intro K8 hK8
      refine wp_region_lit ?_
      refine vc_y hF rfl rfl (by decide) _ (y_assign rfl rfl) (fun a hF => ?_)
      refine vc_nil ?_
      refine hK8 _ _ ?_; clear  hK8 K8
      apply wp_ret
      refine vc_ret1 hF Tryz.results27 rfl ?_
      have hA10 : Hp w0 (R) w7 := Hp.sel [[row b1 52 ca.cells]] R [] [0] hA8 rfl
      exact ⟨by rw [show lifeN ca.opn ca.clo nm = 0 from (if_neg h1).trans (if_neg h2)]; rfl, hA10⟩
end Go.Proofs.YtepbmdlgdaedpaaGreatDoor
