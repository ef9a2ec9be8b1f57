/- EventTells walked: two States are the same bytes just if all that is looked at is the same. -/
import Derived.Test.YtepbmdlgdaedpaaGreatDoorSt2
import Derived.Test.YtepbmdlgdaedpaaGreatDoorSp
namespace Go.Proofs.YtepbmdlgdaedpaaGreatDoor
open Go.RowKit Go.Dk

theorem nr3_v14 : notRow Tryz.prog 3 = true := by kernel_rfl
theorem nr5_v14 : notRow Tryz.prog 5 = true := by kernel_rfl
theorem nr9_v14 : notRow Tryz.prog 9 = true := by kernel_rfl
theorem nr23_v14 : notRow Tryz.prog 23 = true := by kernel_rfl
theorem rw29_v14 : isRow Tryz.prog 29 32 = true := by kernel_rfl
theorem rw49_v14 : isRow Tryz.prog 49 33 = true := by kernel_rfl
theorem rw52_v14 : isRow Tryz.prog 52 39 = true := by kernel_rfl
theorem sz3_v14 : (Tryz.prog.info? 3).map (·.size) = some 1 := by kernel_rfl
theorem sz5_v14 : (Tryz.prog.info? 5).map (·.size) = some 1 := by kernel_rfl
theorem sz9_v14 : (Tryz.prog.info? 9).map (·.size) = some 1 := by kernel_rfl
theorem sz23_v14 : (Tryz.prog.info? 23).map (·.size) = some 1 := by kernel_rfl
theorem sz29_v14 : (Tryz.prog.info? 29).map (·.size) = some 32 := by kernel_rfl
theorem sz52_v14 : (Tryz.prog.info? 52).map (·.size) = some 39 := by kernel_rfl
theorem cl15_v14 : CallsTo Tryz.prog 15 := ⟨_, Tryz.func15, by kernel_rfl, by kernel_rfl⟩
theorem cl23_v14 : CallsTo Tryz.prog 23 := ⟨_, Tryz.func23, by kernel_rfl, by kernel_rfl⟩
theorem cl24_v14 : CallsTo Tryz.prog 24 := ⟨_, Tryz.func24, by kernel_rfl, by kernel_rfl⟩
theorem cl25_v14 : CallsTo Tryz.prog 25 := ⟨_, Tryz.func25, by kernel_rfl, by kernel_rfl⟩
theorem cl26_v14 : CallsTo Tryz.prog 26 := ⟨_, Tryz.func26, by kernel_rfl, by kernel_rfl⟩
theorem cl27_v14 : CallsTo Tryz.prog 27 := ⟨_, Tryz.func27, by kernel_rfl, by kernel_rfl⟩
theorem cl28_v14 : CallsTo Tryz.prog 28 := ⟨_, Tryz.func28, by kernel_rfl, by kernel_rfl⟩

theorem zr52_v14 : zeroIs Tryz.prog 52 (.agg ([.string (⟨#[]⟩), .string (⟨#[]⟩), .int .i64 0, .int .u8 0, .int .u8 0, .int .u8 0, .int .u8 0, .int .u8 0, .int .u8 0, .int .u8 0, .int .u8 0, .int .u8 0, .int .u8 0, .int .u8 0, .int .u8 0, .int .u8 0, .int .u8 0, .int .u8 0, .int .u8 0, .int .u8 0, .int .u8 0, .int .u8 0, .int .u8 0, .int .u8 0, .int .u8 0, .int .u8 0, .int .u8 0, .int .u8 0, .int .u8 0, .int .u8 0, .int .u8 0, .int .u8 0, .int .u8 0, .int .u8 0, .int .u8 0, .slice none 0 0, .slice none 0 0, .slice none 0 0, .slice none 0 0] : List Value).toArray) := by unfold zeroIs; kernel_rfl
theorem y_neBool {P : Program} {w : World} {n : Nat} {F : List (Nat × Value)} {o : Oper} {x y : Operand} {t t' : TypeId} {b c e : Bool} (ho : o.op = .binOp .neq t x y t') (hu : P.underlying t = some .bool) (hx : ev F x = some (.bool b)) (hy : ev F y = some (.bool c)) (he : (!(b == c)) = e) : Yd P n F o w (.bool e) := fun a hF => by
  subst he
  unfold execOp
  have h0 : (eqGuard .neq t x y (.bool b) (.bool c)).run P w = .ok () w := rfl
  simp only [ho, hF.ev hx, hF.ev hy, Sem.run_bind, h0, Result.andThen_ok, run_neq_bool w t b c hu, Sem.run_pure]
noncomputable def entF1 : Field := (Tryz.prog.fieldsOf 49)[0]?.getD default
noncomputable def entF2 : Field := (Tryz.prog.fieldsOf 49)[1]?.getD default
theorem st_entF : (Tryz.prog.fieldsOf 49).toList = [entF1, entF2] := by kernel_rfl
theorem legalN_pos {w : List UInt8} (h : legalN w = true) : 1 ≤ w.length := by
  unfold legalN startsN at h
  rw [Bool.and_eq_true, Bool.and_eq_true, Bool.and_eq_true, decide_eq_true_eq] at h
  exact h.1.1.1.1
theorem ca_one {c : CA} : ∀ {v : Value}, v ∈ c.cells → v.oneCell' = true := fun {v} hv => by
  rcases List.mem_append.1 hv with hv | hv
  · simp only [List.mem_cons, List.not_mem_nil, or_false] at hv
    rcases hv with rfl | rfl | rfl <;> rfl
  · rcases List.mem_append.1 hv with hv | hv
    · exact dc_one _ v hv
    · simp only [List.mem_cons, List.not_mem_nil, or_false] at hv
      rcases hv with rfl | rfl | rfl | rfl <;> rfl
/-- another case of which the same is looked at -/
def CA.swap (c b : CA) (d : List UInt8) : CA := ⟨b.name, c.typ, IntKind.i64.wrap (b.cnt + 1), d, c.vals, c.vA, c.vC, c.opn, c.oA, c.oC, c.clo, c.cA, c.cC, c.rea, c.rA, c.rC⟩
theorem ca_chain {ca cb : CA} {d : List UInt8} (h : ca.ch.length = 32) (hd : d.length = 32) : splice (CA.cells ⟨cb.name, ca.typ, IntKind.i64.wrap (cb.cnt + 1), ca.ch, ca.vals, ca.vA, ca.vC, ca.opn, ca.oA, ca.oC, ca.clo, ca.cA, ca.cC, ca.rea, ca.rA, ca.rC⟩) 3 (dc d) = (ca.swap cb d).cells := by
  unfold splice
  have e : (CA.cells ⟨cb.name, ca.typ, IntKind.i64.wrap (cb.cnt + 1), ca.ch, ca.vals, ca.vA, ca.vC, ca.opn, ca.oA, ca.oC, ca.clo, ca.cA, ca.cC, ca.rea, ca.rA, ca.rC⟩).drop (3 + (dc d).length) = ca.tl := by
    rw [dc_length, hd, ← List.drop_drop]
    show (dc ca.ch ++ ca.tl).drop 32 = ca.tl
    exact List.drop_left' (by rw [dc_length, h])
  rw [e]
  rfl
theorem swap_ok {w0 : World} {G : List Seg} {c b : CA} {d : List UInt8} (h : c.Ok w0 G) (hd : d.length = 32) : (c.swap b d).Ok w0 G := ⟨hd, h.vok, h.vr, h.vn, h.opr, h.opl, h.clr, h.cll, h.rer, h.rel⟩
theorem st_swap {w0 : World} {R : List Seg} {G : List Seg} (n : Int) (ch : List UInt8) (ca cb : CA) (d : List UInt8) (A1 : Option Addr) (l1 : List (List UInt8)) (c1 : Nat) (A2 : Option Addr) (l2 : List (List UInt8)) (c2 : Nat) (A3 : Option Addr) (l3 : List (List UInt8)) (c3 : Nat) (w : World) (hT : TabS w0) (hch : ch.length = 32) (hC : ca.Ok w0 G) (hd : d.length = 32) (h1 : Rc w0 G A1 (l1.map strV)) (h2 : Rc w0 G A2 (l2.map strV)) (h3 : Rc w0 G A3 (l3.map strV)) (hG : G ⊆ R) (hA : Hp w0 R w) : Calls Tryz.prog 24 #[.agg (.int .i64 n :: dc ch : List Value).toArray, .agg (ca.swap cb d).cells.toArray, .slice A1 l1.length c1, .slice A2 l2.length c2, .slice A3 l3.length c3] w fun e w' => ∃ v Z, e = .returned (.tuple #[v, .int .i64 (stE ca.typ (l1.map (heldV ca.bind)) l1.length l2.length l3.length : Nat)]) ∧ Buf 5 1 Z v (stX ca n ch l1 l2 l3).length (dc (stX ca n ch l1 l2 l3)) ∧ Hp w0 (Z :: R) w' :=
  st_state n ch (ca.swap cb d) A1 l1 c1 A2 l2 c2 A3 l3 c3 w hT hch (swap_ok hC hd) h1 h2 h3 hG hA
theorem held_in {w0 : World} {G : List Seg} {c : CA} (hC : c.Ok w0 G) (nm : List UInt8) : (heldV c.bind nm).In := by
  unfold heldV
  cases h : c.bind.find? (fun b => decide (b.1 = nm)) with
  | none => exact noVal_in
  | some b =>
    have h1 := List.mem_of_find?_eq_some h
    obtain ⟨a, ha, rfl⟩ := List.mem_map.1 h1
    exact (hC.vok a ha).i
theorem take_down {α : Type} {l m : List α} {i : Nat} (h : l.take (i + 1) = m.take (i + 1)) : l.take i = m.take i := by
  have := congrArg (List.take i) h
  rwa [List.take_take, List.take_take, Nat.min_eq_left (by omega)] at this
theorem step_f {α : Type} {P : Prop} {l m : List α} {i : Nat} (h : (false = true) ↔ (P ∧ l.take i = m.take i)) : (false = true) ↔ (P ∧ l.take (i + 1) = m.take (i + 1)) :=
  ⟨fun e => absurd e (by decide), fun e => h.2 ⟨e.1, take_down e.2⟩⟩
theorem step_t {α : Type} {P : Prop} {l m : List α} {i : Nat} {x y : α} {b : Bool} (h : (true = true) ↔ (P ∧ l.take i = m.take i)) (hx : l[i]? = some x) (hy : m[i]? = some y) (hb : (b = true) ↔ (x = y)) : (b = true) ↔ (P ∧ l.take (i + 1) = m.take (i + 1)) := by
  obtain ⟨hP, ht⟩ := h.1 rfl
  rw [hb, List.take_add_one, List.take_add_one, hx, hy, ht]
  constructor
  · intro e; rw [e]; exact ⟨hP, rfl⟩
  · intro e; have := e.2; simpa using this
theorem eqlN_iff {a b : Nat} : (cmpB .eql (a : Int) (b : Int) = true) ↔ a = b := by
  unfold cmpB
  rw [beq_iff_eq]
  exact ⟨fun h => by omega, fun h => by omega⟩
theorem tells_n {α β : Type} {P : Prop} {b : Bool} {l m : List α} {l2 m2 : List β} (h : (b = true) ↔ (P ∧ l = m)) : (b = true) ↔ ((P ∧ l = m) ∧ l2.take 0 = m2.take 0) := by
  rw [h]
  exact ⟨fun e => ⟨e, rfl⟩, fun e => e.1⟩
theorem tells_0 {n1 n2 : Int} {d1 d2 : List UInt8} {ca cb : CA} {α : Type} (l m : List α) : ((((decide (n1 = n2 ∧ d1 = d2))) && (strB .eql ca.typ cb.typ)) = true) ↔ (((n1 = n2 ∧ d1 = d2) ∧ ca.typ = cb.typ) ∧ l.take 0 = m.take 0) := by
  rw [Bool.and_eq_true, decide_eq_true_iff]
  unfold strB
  rw [beq_iff_eq]
  exact ⟨fun e => ⟨e, rfl⟩, fun e => e.1⟩
theorem stE_ok {t : List UInt8} {vs : List Val} {k1 k2 k3 : Nat} (h : stE t vs k1 k2 k3 = 0) : legalN t = true ∧ ∀ v ∈ vs, v.right = 0 := by
  unfold stE at h
  split at h
  · exact absurd h (by decide)
  rename_i h1
  split at h
  · exact absurd h (by decide)
  · exact ⟨by simpa using h1, firstR_zero h⟩
theorem tells_iff {w0 : World} {G : List Seg} {n1 n2 : Int} {d1 d2 : List UInt8} {ca cb : CA} {l1 l2 l3 : List (List UInt8)} (hn1 : -9223372036854775808 ≤ n1 ∧ n1 ≤ 9223372036854775807) (hn2 : -9223372036854775808 ≤ n2 ∧ n2 ≤ 9223372036854775807) (hd1 : d1.length = 32) (hd2 : d2.length = 32) (hC : ca.Ok w0 G) (hD : cb.Ok w0 G) (h1 : stE ca.typ (l1.map (heldV ca.bind)) l1.length l2.length l3.length = 0) (h2 : stE cb.typ (l1.map (heldV cb.bind)) l1.length l2.length l3.length = 0) :
    stX ca n1 d1 l1 l2 l3 = stX cb n2 d2 l1 l2 l3 ↔ ((((n1 = n2 ∧ d1 = d2) ∧ ca.typ = cb.typ) ∧ l1.map (heldV ca.bind) = l1.map (heldV cb.bind)) ∧ l2.map (lifeN ca.opn ca.clo) = l2.map (lifeN cb.opn cb.clo)) ∧ (l3.map fun m => decide (m ∈ ca.rea)) = (l3.map fun m => decide (m ∈ cb.rea)) := by
  obtain ⟨g1, r1⟩ := stE_ok h1
  obtain ⟨g2, r2⟩ := stE_ok h2
  rw [stX_ok h1, stX_ok h2]
  constructor
  · intro e
    obtain ⟨e1, e2, e3, e4, e5, e6⟩ := st_inj (legalN_len g1) (legalN_len g2) hn1 hn2 hd1 hd2 (fun v hv => ⟨by obtain ⟨q, _, rfl⟩ := List.mem_map.1 hv; exact held_in hC q, r1 v hv⟩) (fun v hv => ⟨by obtain ⟨q, _, rfl⟩ := List.mem_map.1 hv; exact held_in hD q, r2 v hv⟩) (by rw [List.length_map, List.length_map]) (by rw [List.length_map, List.length_map]) (by rw [List.length_map, List.length_map]) (fun x hx => by obtain ⟨q, _, rfl⟩ := List.mem_map.1 hx; exact lifeN_lt _ _ _) (fun x hx => by obtain ⟨q, _, rfl⟩ := List.mem_map.1 hx; exact lifeN_lt _ _ _) e
    exact ⟨⟨⟨⟨⟨e2, e3⟩, e1⟩, e4⟩, e5⟩, e6⟩
  · rintro ⟨⟨⟨⟨⟨e2, e3⟩, e1⟩, e4⟩, e5⟩, e6⟩
    rw [e1, e2, e3, e4, e5, e6]
theorem st_two {c : CA} {n : Int} {ch : List UInt8} {l1 l2 l3 : List (List UInt8)} (h : stE c.typ (l1.map (heldV c.bind)) l1.length l2.length l3.length = 0) : ∃ k1 : Int, k1 ≠ 0 ∧ (dc (stX c n ch l1 l2 l3))[0]? = some (.int .u8 0) ∧ (dc (stX c n ch l1 l2 l3))[1]? = some (.int .u8 k1) ∧ 2 ≤ (stX c n ch l1 l2 l3).length := by
  obtain ⟨g1, _⟩ := stE_ok h
  have g2 := legalN_len g1
  rw [stX_ok h]
  obtain ⟨s, hs, hz⟩ := st_head (n := n) (c := ch) (vs := l1.map (heldV c.bind)) (lf := l2.map (lifeN c.opn c.clo)) (mk := l3.map fun m => decide (m ∈ c.rea)) (legalN_pos g1) g2
  rw [hs]
  refine ⟨((UInt8.ofNat c.typ.length).toNat : Int), fun e => hz ?_, rfl, rfl, ?_⟩
  · apply UInt8.toNat_inj.1
    show (UInt8.ofNat c.typ.length).toNat = 0
    omega
  · simp only [List.length_cons]; omega

set_option maxRecDepth 100000 in
set_option maxHeartbeats 8000000 in
theorem law_tells (w0 : World) (n1 n2 : Int) (d1 d2 : List UInt8) (ca cb : CA) (A1 : Option Addr) (l1 : List (List UInt8)) (c1 : Nat) (A2 : Option Addr) (l2 : List (List UInt8)) (c2 : Nat) (A3 : Option Addr) (l3 : List (List UInt8)) (c3 : Nat) (hT : TabS w0) (hn1 : -9223372036854775808 ≤ n1 ∧ n1 ≤ 9223372036854775807) (hn2 : -9223372036854775808 ≤ n2 ∧ n2 ≤ 9223372036854775807) (hd1 : d1.length = 32) (hd2 : d2.length = 32) (hC : ca.Ok w0 []) (hD : cb.Ok w0 []) (h1 : Rc w0 [] A1 (l1.map strV)) (h2 : Rc w0 [] A2 (l2.map strV)) (h3 : Rc w0 [] A3 (l3.map strV)) (hl1 : l1.length ≤ 9223372036854775807) (hl2 : l2.length ≤ 9223372036854775807) (hl3 : l3.length ≤ 9223372036854775807) : Calls Tryz.prog 7 #[.agg (.int .i64 n1 :: dc d1 : List Value).toArray, .agg (.int .i64 n2 :: dc d2 : List Value).toArray, .agg ca.cells.toArray, .agg cb.cells.toArray, .slice A1 l1.length c1, .slice A2 l2.length c2, .slice A3 l3.length c3] w0 fun e W' => e = .returned (.bool true) ∧ At w0 [] W' := by
  have hA : Hp w0 [] w0 := Hp.start w0
  have hG : ([] : List Seg) ⊆ [] := fun _ h => h
  have h32 := hC.h32
  have h32b := hD.h32
  refine vc_enter Tryz.func7 rfl Tryz.ntmps7 (Nat.le_of_ble_eq_true rfl) (fun a hF => ?_)
  apply wp_seq_k; intro K1 hK1
  refine wp_region_lit ?_
  refine vc_op rfl (fun K hK => hs_box (cs := .int .i64 n1 :: dc d1) hF rfl (by decide) rfl hA rfl (fun b1 w2 a hb1 hF hA3 => hK _ _ ?_))
  clear hK K
  replace hA3 : Hp w0 ([row b1 49 (.int .i64 n1 :: dc d1)] :: []) w2 := hA3
  refine vc_op rfl (fun K hK => hs_box (cs := .int .i64 n2 :: dc d2) hF rfl (by decide) rfl hA3 rfl (fun b4 w5 a hb4 hF hA6 => hK _ _ ?_))
  clear hK K
  replace hA6 : Hp w0 ([row b4 49 (.int .i64 n2 :: dc d2)] :: [row b1 49 (.int .i64 n1 :: dc d1)] :: []) w5 := hA6
  refine vc_op rfl (fun K hK => hs_box (cs := ca.cells) hF rfl (by decide) rfl hA6 rfl (fun b7 w8 a hb7 hF hA9 => hK _ _ ?_))
  clear hK K
  replace hA9 : Hp w0 ([row b7 52 ca.cells] :: [row b4 49 (.int .i64 n2 :: dc d2)] :: [row b1 49 (.int .i64 n1 :: dc d1)] :: []) w8 := hA9
  refine vc_op rfl (fun K hK => hs_box (cs := cb.cells) hF rfl (by decide) rfl hA9 rfl (fun b10 w11 a hb10 hF hA12 => hK _ _ ?_))
  clear hK K
  replace hA12 : Hp w0 ([row b10 52 cb.cells] :: [row b7 52 ca.cells] :: [row b4 49 (.int .i64 n2 :: dc d2)] :: [row b1 49 (.int .i64 n1 :: dc d1)] :: []) w11 := hA12
  refine vc_y hF rfl rfl (by decide) _ (y_assign rfl rfl) (fun a hF => ?_)
  refine vc_nil ?_
  refine hK1 _ _ ?_; clear  hK1 K1
  apply wp_seq_k; intro K2 hK2
  refine wp_region_lit ?_
  refine vc_y hF rfl rfl (by decide) _ (y_ldRow (new := (.int .i64 n1 :: dc d1)) rfl hA12.q rfl 3 rfl rw49_v14 (by rw [en_len hd1]; exact Nat.le_refl _) (by rw [List.drop_zero]; exact List.take_of_length_le (by rw [en_len hd1]; exact Nat.le_refl _))) (fun a hF => ?_)
  refine vc_y hF rfl rfl (by decide) _ (y_ldRow (new := ca.cells) rfl hA12.q rfl 1 rfl rw52_v14 (by rw [ca_len h32]; exact Nat.le_refl _) (by rw [List.drop_zero]; exact List.take_of_length_le (by rw [ca_len h32]; exact Nat.le_refl _))) (fun a hF => ?_)
  refine vc_y hF rfl rfl (by decide) _ (y_move rfl rfl) (fun a hF => ?_)
  refine vc_y hF rfl rfl (by decide) _ (y_move rfl rfl) (fun a hF => ?_)
  refine vc_y hF rfl rfl (by decide) _ (y_move rfl rfl) (fun a hF => ?_)
  refine vc_op rfl (fun K hK => ws_call hF rfl (by decide) cl24_v14 rfl rfl ?_)
  with_reducible refine (st_state n1 d1 ca A1 l1 c1 A2 l2 c2 A3 l3 c3 _ hT hd1 hC h1 h2 h3 (List.nil_subset _) hA12 ).mono ?_
  rintro e' w13 ⟨vS1, ZS1, rfl, hZS1, hA14⟩
  refine ⟨_, rfl, fun a hF => hK _ _ ?_⟩
  clear hK K
  replace hA14 : Hp w0 (ZS1 :: [row b10 52 cb.cells] :: [row b7 52 ca.cells] :: [row b4 49 (.int .i64 n2 :: dc d2)] :: [row b1 49 (.int .i64 n1 :: dc d1)] :: []) w13 := hA14
  obtain ⟨_, AS1, cS1, rfl, hcS1, hRS1⟩ := hZS1.rd (w0 := w0) (R := [ZS1]) (List.mem_cons_self ..)
  obtain ⟨_, _, _, hle1, hlf1⟩ := hZS1.cap
  refine vc_y hF rfl rfl (by decide) _ (y_move rfl rfl) (fun a hF => ?_)
  refine vc_y hF rfl rfl (by decide) _ (y_extract (v := .slice AS1 ((stX ca n1 d1 l1 l2 l3).length) cS1) rfl rfl rfl) (fun a hF => ?_)
  refine vc_y hF rfl rfl (by decide) _ (y_extract (v := .int .i64 ((stE ca.typ (l1.map (heldV ca.bind)) l1.length l2.length l3.length : Nat) : Int)) rfl rfl rfl) (fun a hF => ?_)
  refine vc_y hF rfl rfl (by decide) _ (y_assign rfl rfl) (fun a hF => ?_)
  refine vc_y hF rfl rfl (by decide) _ (y_assign rfl rfl) (fun a hF => ?_)
  refine vc_nil ?_
  refine hK2 _ _ ?_; clear  hK2 K2
  apply wp_seq_k; intro K3 hK3
  refine wp_region_lit ?_
  refine vc_y hF rfl rfl (by decide) _ (y_ldRow (new := (.int .i64 n2 :: dc d2)) rfl hA14.q rfl 3 rfl rw49_v14 (by rw [en_len hd2]; exact Nat.le_refl _) (by rw [List.drop_zero]; exact List.take_of_length_le (by rw [en_len hd2]; exact Nat.le_refl _))) (fun a hF => ?_)
  refine vc_y hF rfl rfl (by decide) _ (y_ldRow (new := cb.cells) rfl hA14.q rfl 1 rfl rw52_v14 (by rw [ca_len h32b]; exact Nat.le_refl _) (by rw [List.drop_zero]; exact List.take_of_length_le (by rw [ca_len h32b]; exact Nat.le_refl _))) (fun a hF => ?_)
  refine vc_y hF rfl rfl (by decide) _ (y_move rfl rfl) (fun a hF => ?_)
  refine vc_y hF rfl rfl (by decide) _ (y_move rfl rfl) (fun a hF => ?_)
  refine vc_y hF rfl rfl (by decide) _ (y_move rfl rfl) (fun a hF => ?_)
  refine vc_op rfl (fun K hK => ws_call hF rfl (by decide) cl24_v14 rfl rfl ?_)
  with_reducible refine (st_state n2 d2 cb A1 l1 c1 A2 l2 c2 A3 l3 c3 _ hT hd2 hD h1 h2 h3 (List.nil_subset _) hA14 ).mono ?_
  rintro e' w15 ⟨vS2, ZS2, rfl, hZS2, hA16⟩
  refine ⟨_, rfl, fun a hF => hK _ _ ?_⟩
  clear hK K
  replace hA16 : Hp w0 (ZS2 :: ZS1 :: [row b10 52 cb.cells] :: [row b7 52 ca.cells] :: [row b4 49 (.int .i64 n2 :: dc d2)] :: [row b1 49 (.int .i64 n1 :: dc d1)] :: []) w15 := hA16
  obtain ⟨_, AS2, cS2, rfl, hcS2, hRS2⟩ := hZS2.rd (w0 := w0) (R := [ZS2]) (List.mem_cons_self ..)
  obtain ⟨_, _, _, hle2, hlf2⟩ := hZS2.cap
  refine vc_y hF rfl rfl (by decide) _ (y_move rfl rfl) (fun a hF => ?_)
  refine vc_y hF rfl rfl (by decide) _ (y_extract (v := .slice AS2 ((stX cb n2 d2 l1 l2 l3).length) cS2) rfl rfl rfl) (fun a hF => ?_)
  refine vc_y hF rfl rfl (by decide) _ (y_extract (v := .int .i64 ((stE cb.typ (l1.map (heldV cb.bind)) l1.length l2.length l3.length : Nat) : Int)) rfl rfl rfl) (fun a hF => ?_)
  refine vc_y hF rfl rfl (by decide) _ (y_assign rfl rfl) (fun a hF => ?_)
  refine vc_y hF rfl rfl (by decide) _ (y_assign rfl rfl) (fun a hF => ?_)
  refine vc_nil ?_
  refine hK3 _ _ ?_; clear  hK3 K3
  apply wp_seq_k; intro K4 hK4
  apply wp_seq_k; intro K5 hK5
  by_cases hE1 : stE ca.typ (l1.map (heldV ca.bind)) l1.length l2.length l3.length = 0
  · by_cases hE2 : stE cb.typ (l1.map (heldV cb.bind)) l1.length l2.length l3.length = 0
    · obtain ⟨vs, hvs⟩ : ∃ vs, vs = l1.map (heldV ca.bind) := ⟨_, rfl⟩
      obtain ⟨us, hus⟩ : ∃ us, us = l1.map (heldV cb.bind) := ⟨_, rfl⟩
      obtain ⟨lf, hlf⟩ : ∃ lf, lf = l2.map (lifeN ca.opn ca.clo) := ⟨_, rfl⟩
      obtain ⟨lg, hlg⟩ : ∃ lg, lg = l2.map (lifeN cb.opn cb.clo) := ⟨_, rfl⟩
      obtain ⟨mk, hmk⟩ : ∃ mk : List Bool, mk = l3.map (fun m => decide (m ∈ ca.rea)) := ⟨_, rfl⟩
      obtain ⟨mg, hmg⟩ : ∃ mg : List Bool, mg = l3.map (fun m => decide (m ∈ cb.rea)) := ⟨_, rfl⟩
      refine wp_region_lit ?_
      refine vc_y hF rfl rfl (by decide) _ (y_move rfl rfl) (fun a hF => ?_)
      refine vc_y hF rfl rfl (by decide) _ (y_cmp rfl rfl rfl rfl (neq_f (by omega))) (fun a hF => ?_)
      refine vc_y hF rfl rfl (by decide) _ (y_move rfl rfl) (fun a hF => ?_)
      refine vc_yg hF rfl rfl rfl rfl (some_bool rfl) (by decide) _ (y_move rfl rfl) (fun a hF => ?_)
      refine vc_yg hF rfl rfl rfl rfl (some_bool rfl) (by decide) _ (y_cmp rfl rfl rfl rfl (neq_f (by omega))) (fun a hF => ?_)
      refine vc_y hF rfl rfl (by decide) _ (y_pickF rfl rfl rfl rfl) (fun a hF => ?_)
      refine vc_nil ?_
      refine hK5 _ _ ?_; clear  hK5 K5
      refine vc_falseB hF rfl rfl ?_
      apply wp_skip
      refine hK4 _ _ ?_; clear  hK4 K4
      apply wp_seq_k; intro K6 hK6
      refine wp_region_lit ?_
      refine vc_y hF rfl rfl (by decide) _ (y_ldRow (new := (.int .i64 n1 :: dc d1)) rfl hA16.q rfl 5 rfl rw49_v14 (by rw [en_len hd1]; exact Nat.le_refl _) (by rw [List.drop_zero]; exact List.take_of_length_le (by rw [en_len hd1]; exact Nat.le_refl _))) (fun a hF => ?_)
      refine vc_y hF rfl rfl (by decide) _ (y_ldRow (new := (.int .i64 n2 :: dc d2)) rfl hA16.q rfl 4 rfl rw49_v14 (by rw [en_len hd2]; exact Nat.le_refl _) (by rw [List.drop_zero]; exact List.take_of_length_le (by rw [en_len hd2]; exact Nat.le_refl _))) (fun a hF => ?_)
      refine vc_y hF rfl rfl (by decide) _ (y_eqEnt rfl (by kernel_rfl) (by kernel_rfl) (by kernel_rfl) st_entF (by decide) (by decide) rfl rfl Tryz.underlying3 Tryz.underlying29 Tryz.underlying5 sz5_v14 sz29_v14 hd1 hd2 rfl rfl rfl) (fun a hF => ?_)
      refine vc_y hF rfl rfl (by decide) _ (y_move rfl rfl) (fun a hF => ?_)
      refine vc_meet (l2 := ?lA1) hF [(78, .bool (((decide (n1 = n2 ∧ d1 = d2))) && (strB .eql ca.typ cb.typ))), (0, .agg ((.int .i64 n1 :: dc d1)).toArray), (1, .agg ((.int .i64 n2 :: dc d2)).toArray), (2, .agg (ca.cells).toArray), (3, .agg (cb.cells).toArray), (4, .slice A1 l1.length c1), (5, .slice A2 l2.length c2), (6, .slice A3 l3.length c3), (7, .pointer (some ⟨b1, 0, none⟩)), (8, .pointer (some ⟨b4, 0, none⟩)), (9, .pointer (some ⟨b7, 0, none⟩)), (10, .pointer (some ⟨b10, 0, none⟩)), (14, .bool false), (27, .agg ((.int .i64 n1 :: dc d1)).toArray), (28, .agg (ca.cells).toArray), (29, .slice A1 l1.length c1), (30, .slice A2 l2.length c2), (31, .slice A3 l3.length c3), (32, .tuple #[.slice AS1 ((stX ca n1 d1 l1 l2 l3).length) cS1, .int .i64 ((stE ca.typ (l1.map (heldV ca.bind)) l1.length l2.length l3.length : Nat) : Int)]), (26, .tuple #[.slice AS1 ((stX ca n1 d1 l1 l2 l3).length) cS1, .int .i64 ((stE ca.typ (l1.map (heldV ca.bind)) l1.length l2.length l3.length : Nat) : Int)]), (33, .slice AS1 ((stX ca n1 d1 l1 l2 l3).length) cS1), (34, .int .i64 ((stE ca.typ (l1.map (heldV ca.bind)) l1.length l2.length l3.length : Nat) : Int)), (15, .slice AS1 ((stX ca n1 d1 l1 l2 l3).length) cS1), (16, .int .i64 ((stE ca.typ (l1.map (heldV ca.bind)) l1.length l2.length l3.length : Nat) : Int)), (36, .agg ((.int .i64 n2 :: dc d2)).toArray), (37, .agg (cb.cells).toArray), (38, .slice A1 l1.length c1), (39, .slice A2 l2.length c2), (40, .slice A3 l3.length c3), (41, .tuple #[.slice AS2 ((stX cb n2 d2 l1 l2 l3).length) cS2, .int .i64 ((stE cb.typ (l1.map (heldV cb.bind)) l1.length l2.length l3.length : Nat) : Int)]), (35, .tuple #[.slice AS2 ((stX cb n2 d2 l1 l2 l3).length) cS2, .int .i64 ((stE cb.typ (l1.map (heldV cb.bind)) l1.length l2.length l3.length : Nat) : Int)]), (42, .slice AS2 ((stX cb n2 d2 l1 l2 l3).length) cS2), (43, .int .i64 ((stE cb.typ (l1.map (heldV cb.bind)) l1.length l2.length l3.length : Nat) : Int)), (17, .slice AS2 ((stX cb n2 d2 l1 l2 l3).length) cS2), (18, .int .i64 ((stE cb.typ (l1.map (heldV cb.bind)) l1.length l2.length l3.length : Nat) : Int)), (44, .int .i64 ((stE ca.typ (l1.map (heldV ca.bind)) l1.length l2.length l3.length : Nat) : Int)), (45, .bool false), (46, .bool false), (47, .int .i64 ((stE cb.typ (l1.map (heldV cb.bind)) l1.length l2.length l3.length : Nat) : Int)), (48, .bool false), (49, .bool false)] (fun hJ1 => ?elA1) (fun a hF => ?flA1)
      case elA1 =>
        rcases tf ((decide (n1 = n2 ∧ d1 = d2))) with hg1 | hg1
        · refine vc_skip hF rfl rfl rfl rfl rfl (ne_want hg1) (by decide) (fun a hF => ?_)
          refine vc_skip hF rfl rfl rfl rfl rfl (ne_want hg1) (by decide) (fun a hF => ?_)
          refine vc_skip hF rfl rfl rfl rfl rfl (ne_want hg1) (by decide) (fun a hF => ?_)
          refine vc_skip hF rfl rfl rfl rfl rfl (ne_want hg1) (by decide) (fun a hF => ?_)
          refine vc_skip hF rfl rfl rfl rfl rfl (ne_want hg1) (by decide) (fun a hF => ?_)
          refine vc_y hF rfl rfl (by decide) _ (y_pickF hg1 rfl rfl rfl) (fun a hF => ?_)
          exact hJ1 _ ((hF.keep [78, 0, 1, 2, 3, 4, 5, 6, 7, 8, 9, 10, 14, 27, 28, 29, 30, 31, 32, 26, 33, 34, 15, 16, 36, 37, 38, 39, 40, 41, 35, 42, 43, 17, 18, 44, 45, 46, 47, 48, 49] (F' := [(78, _), (0, _), (1, _), (2, _), (3, _), (4, _), (5, _), (6, _), (7, _), (8, _), (9, _), (10, _), (14, _), (27, _), (28, _), (29, _), (30, _), (31, _), (32, _), (26, _), (33, _), (34, _), (15, _), (16, _), (36, _), (37, _), (38, _), (39, _), (40, _), (41, _), (35, _), (42, _), (43, _), (17, _), (18, _), (44, _), (45, _), (46, _), (47, _), (48, _), (49, _)]) rfl).bool (by rw [hg1]; rfl))
        · refine vc_yg hF rfl rfl rfl rfl (some_bool hg1) (by decide) _ (y_field rfl Tryz.underlying52 rfl sz9_v14 (by decide) rfl (rfl : (⟨_, 0 + _, none⟩ : Addr) = ⟨_, 1, none⟩)) (fun a hF => ?_)
          refine vc_yg hF rfl rfl rfl rfl (some_bool hg1) (by decide) _ (y_ld (u := strV ca.typ) rfl hA16.q rfl 3 rfl rfl nr9_v14) (fun a hF => ?_)
          refine vc_yg hF rfl rfl rfl rfl (some_bool hg1) (by decide) _ (y_field rfl Tryz.underlying52 rfl sz9_v14 (by decide) rfl (rfl : (⟨_, 0 + _, none⟩ : Addr) = ⟨_, 1, none⟩)) (fun a hF => ?_)
          refine vc_yg hF rfl rfl rfl rfl (some_bool hg1) (by decide) _ (y_ld (u := strV cb.typ) rfl hA16.q rfl 2 rfl rfl nr9_v14) (fun a hF => ?_)
          refine vc_yg hF rfl rfl rfl rfl (some_bool hg1) (by decide) _ (y_cmpS rfl rfl rfl rfl rfl) (fun a hF => ?_)
          refine vc_y hF rfl rfl (by decide) _ (y_pickT hg1 rfl rfl rfl) (fun a hF => ?_)
          exact hJ1 _ ((hF.keep [78, 0, 1, 2, 3, 4, 5, 6, 7, 8, 9, 10, 14, 27, 28, 29, 30, 31, 32, 26, 33, 34, 15, 16, 36, 37, 38, 39, 40, 41, 35, 42, 43, 17, 18, 44, 45, 46, 47, 48, 49] (F' := [(78, _), (0, _), (1, _), (2, _), (3, _), (4, _), (5, _), (6, _), (7, _), (8, _), (9, _), (10, _), (14, _), (27, _), (28, _), (29, _), (30, _), (31, _), (32, _), (26, _), (33, _), (34, _), (15, _), (16, _), (36, _), (37, _), (38, _), (39, _), (40, _), (41, _), (35, _), (42, _), (43, _), (17, _), (18, _), (44, _), (45, _), (46, _), (47, _), (48, _), (49, _)]) rfl).bool (by rw [hg1]; rfl))
      refine vc_y hF rfl rfl (by decide) _ (y_assign rfl rfl) (fun a hF => ?_)
      refine vc_nil ?_
      refine hK6 _ _ ?_; clear  hK6 K6
      apply wp_seq_k; intro K7 hK7
      apply wp_seq_k; intro K8 hK8
      refine wp_region_lit ?_
      refine vc_y hF rfl rfl (by decide) _ (y_assign rfl rfl) (fun a hF => ?_)
      refine vc_nil ?_
      refine hK8 _ _ ?_; clear  hK8 K8
      apply wp_block
      refine vc_loop (G := Nat) (fun i a x => ∃ (al : Bool), i ≤ l1.length ∧ ((al = true) ↔ (((n1 = n2 ∧ d1 = d2) ∧ ca.typ = cb.typ) ∧ vs.take i = us.take i)) ∧ Fr 199 [(20, .int .i64 (i : Int)), (19, .bool al), (4, .slice A1 l1.length c1), (5, .slice A2 l2.length c2), (6, .slice A3 l3.length c3), (7, .pointer (some ⟨b1, 0, none⟩)), (8, .pointer (some ⟨b4, 0, none⟩)), (9, .pointer (some ⟨b7, 0, none⟩)), (10, .pointer (some ⟨b10, 0, none⟩)), (15, .slice AS1 ((stX ca n1 d1 l1 l2 l3).length) cS1), (17, .slice AS2 ((stX cb n2 d2 l1 l2 l3).length) cS2)] a ∧ Hp w0 (ZS2 :: ZS1 :: [row b10 52 cb.cells] :: [row b7 52 ca.cells] :: [row b4 49 (.int .i64 n2 :: dc d2)] :: [row b1 49 (.int .i64 n1 :: dc d1)] :: []) x) (fun i => l1.length - i) 0 (⟨_, Nat.zero_le _, (tells_0 _ _), hF.keep [20, 19, 4, 5, 6, 7, 8, 9, 10, 15, 17] rfl, hA16⟩) ?_
      clear hF
      rintro i a w18 ⟨al, hi, hal, hF, hA17⟩
      apply wp_seq_k; intro K9 hK9
      apply wp_seq_k; intro K10 hK10
      refine wp_region_lit ?_
      refine vc_y hF rfl rfl (by decide) _ (y_move rfl rfl) (fun a hF => ?_)
      refine vc_y hF rfl rfl (by decide) _ (y_move rfl rfl) (fun a hF => ?_)
      refine vc_y hF rfl rfl (by decide) _ (y_lenSl rfl Tryz.underlying23 rfl rfl) (fun a hF => ?_)
      refine vc_y hF rfl rfl (by decide) _ (y_cmp rfl rfl rfl rfl rfl) (fun a hF => ?_)
      refine vc_nil ?_
      refine hK10 _ _ ?_; clear  hK10 K10
      by_cases hlt : i < l1.length
      · refine vc_trueB hF rfl (lss_t (by omega)) ?_
        obtain ⟨q, hpq⟩ : ∃ q, l1[i]? = some q := ⟨_, List.getElem?_eq_getElem hlt⟩
        obtain ⟨bq, oq, hsq, hcq⟩ := h1.ne (i := i) (by rw [List.length_map]; exact hlt)
        rw [hsq] at hF
        rcases tf al with ht | ht
        · subst ht
          apply wp_skip
          refine hK9 _ _ ?_; clear  hK9 K9
          apply wp_seq_k; intro K11 hK11
          apply wp_block
          refine wp_region_plan 16 [7,13,14,16] [0,1,2,3,4,5,6,8,9,10,11,12,7,13,14,15,16] (fun x => Hq w0 (ZS2 :: ZS1 :: [row b10 52 cb.cells] :: [row b7 52 ca.cells] :: [row b4 49 (.int .i64 n2 :: dc d2)] :: [row b1 49 (.int .i64 n1 :: dc d1)] :: []) x) (by kernel_rfl) (by kernel_rfl) (Hq.drew (Hp.qp [ZS2, ZS1, [row b10 52 cb.cells], [row b7 52 ca.cells], [row b4 49 (.int .i64 n2 :: dc d2)], [row b1 49 (.int .i64 n1 :: dc d1)]] [] [0, 1, 2, 3, 4, 5] hA17)) ?_
          have hA19 := Hl.drew hA17
          refine vp_y hF rfl rfl rfl rfl (by decide) _ (fun x hx => y_move rfl rfl) (fun a hF => ?_)
          refine vp_y hF rfl rfl rfl rfl (by decide) _ (fun x hx => y_move rfl rfl) (fun a hF => ?_)
          refine vp_skip hF rfl rfl rfl rfl rfl rfl rfl rfl (by decide) (fun a hF => ?_)
          refine vp_skip hF rfl rfl rfl rfl rfl rfl rfl rfl (by decide) (fun a hF => ?_)
          refine vp_skip hF rfl rfl rfl rfl rfl rfl rfl rfl (by decide) (fun a hF => ?_)
          refine vp_skip hF rfl rfl rfl rfl rfl rfl rfl rfl (by decide) (fun a hF => ?_)
          refine vp_skip hF rfl rfl rfl rfl rfl rfl rfl rfl (by decide) (fun a hF => ?_)
          refine vp_skip hF rfl rfl rfl rfl rfl rfl rfl rfl (by decide) (fun a hF => ?_)
          refine vp_skip hF rfl rfl rfl rfl rfl rfl rfl rfl (by decide) (fun a hF => ?_)
          refine vp_skip hF rfl rfl rfl rfl rfl rfl rfl rfl (by decide) (fun a hF => ?_)
          refine vp_skip hF rfl rfl rfl rfl rfl rfl rfl rfl (by decide) (fun a hF => ?_)
          refine vp_skip hF rfl rfl rfl rfl rfl rfl rfl rfl (by decide) (fun a hF => ?_)
          refine vp_skipl hF rfl rfl rfl rfl rfl rfl rfl rfl (by decide) (Hp.qp [ZS2, ZS1, [row b10 52 cb.cells], [row b7 52 ca.cells], [row b4 49 (.int .i64 n2 :: dc d2)], [row b1 49 (.int .i64 n1 :: dc d1)]] [] [0, 1, 2, 3, 4, 5] hA19) (fun a hF => ?_)
          refine vp_skipl hF rfl rfl rfl rfl rfl rfl rfl rfl (by decide) (Hp.qp [ZS2, ZS1, [row b10 52 cb.cells], [row b7 52 ca.cells], [row b4 49 (.int .i64 n2 :: dc d2)], [row b1 49 (.int .i64 n1 :: dc d1)]] [] [0, 1, 2, 3, 4, 5] hA19) (fun a hF => ?_)
          refine vp_skipl hF rfl rfl rfl rfl rfl rfl rfl rfl (by decide) (Hp.qp [ZS2, ZS1, [row b10 52 cb.cells], [row b7 52 ca.cells], [row b4 49 (.int .i64 n2 :: dc d2)], [row b1 49 (.int .i64 n1 :: dc d1)]] [] [0, 1, 2, 3, 4, 5] hA19) (fun a hF => ?_)
          refine vp_y hF rfl rfl rfl rfl (by decide) _ (fun x hx => y_pick rfl rfl rfl) (fun a hF => ?_)
          refine vp_ly hF rfl rfl rfl rfl (by decide) _ (y_assign rfl rfl) (fun h => absurd h (by decide)) (fun a hF => ?_)
          refine plan_end ?_
          refine hK11 _ _ ?_; clear  hK11 K11
          refine wp_region_lit ?_
          refine vc_y hF rfl rfl (by decide) _ (y_move rfl rfl) (fun a hF => ?_)
          refine vc_y hF rfl rfl (by decide) _ (y_add rfl rfl rfl (IntWalk.i64_in _ (by omega))) (fun a hF => ?_)
          refine vc_y hF rfl rfl (by decide) _ (y_assign rfl rfl) (fun a hF => ?_)
          refine vc_nil ?_
          rw [← hsq] at hF
          exact ⟨i + 1, by omega, _, by omega, step_f hal, hF.keep [20, 19, 4, 5, 6, 7, 8, 9, 10, 15, 17] rfl, hA19⟩
        · subst ht
          apply wp_skip
          refine hK9 _ _ ?_; clear  hK9 K9
          apply wp_seq_k; intro K12 hK12
          apply wp_block
          refine wp_region_plan 16 [7,13,14,16] [0,1,2,3,4,5,6,8,9,10,11,12,7,13,14,15,16] (fun x => Hq w0 (ZS2 :: ZS1 :: [row b10 52 cb.cells] :: [row b7 52 ca.cells] :: [row b4 49 (.int .i64 n2 :: dc d2)] :: [row b1 49 (.int .i64 n1 :: dc d1)] :: []) x) (by kernel_rfl) (by kernel_rfl) (Hq.drew (Hp.qp [ZS2, ZS1, [row b10 52 cb.cells], [row b7 52 ca.cells], [row b4 49 (.int .i64 n2 :: dc d2)], [row b1 49 (.int .i64 n1 :: dc d1)]] [] [0, 1, 2, 3, 4, 5] hA17)) ?_
          have hA20 := Hl.drew hA17
          refine vp_y hF rfl rfl rfl rfl (by decide) _ (fun x hx => y_move rfl rfl) (fun a hF => ?_)
          refine vp_y hF rfl rfl rfl rfl (by decide) _ (fun x hx => y_move rfl rfl) (fun a hF => ?_)
          refine vp_yg hF rfl rfl rfl rfl rfl rfl rfl (by decide) _ (fun x hx => y_ldRow (new := ca.cells) rfl hx rfl 3 rfl rw52_v14 (by rw [ca_len h32]; exact Nat.le_refl _) (by rw [List.drop_zero]; exact List.take_of_length_le (by rw [ca_len h32]; exact Nat.le_refl _))) (fun a hF => ?_)
          refine vp_yg hF rfl rfl rfl rfl rfl rfl rfl (by decide) _ (fun x hx => y_move rfl rfl) (fun a hF => ?_)
          refine vp_yg hF rfl rfl rfl rfl rfl rfl rfl (by decide) _ (fun x hx => y_move rfl rfl) (fun a hF => ?_)
          refine vp_yg hF rfl rfl rfl rfl rfl rfl rfl (by decide) _ (fun x hx => y_ixSl rfl Tryz.underlying23 sz9_v14 rfl rfl i rfl hlt (ad2 _ _ _)) (fun a hF => ?_)
          refine vp_yg hF rfl rfl rfl rfl rfl rfl rfl (by decide) _ (fun x hx => y_ldC (u := strV q) rfl (Hq.sub hx (List.nil_subset _)) rfl hcq i (by rw [List.length_map]; exact hlt) rfl (by rw [List.getElem?_map, hpq]; rfl) nr9_v14) (fun a hF => ?_)
          refine vp_yg hF rfl rfl rfl rfl rfl rfl rfl (by decide) _ (fun x hx => y_ldRow (new := cb.cells) rfl hx rfl 2 rfl rw52_v14 (by rw [ca_len h32b]; exact Nat.le_refl _) (by rw [List.drop_zero]; exact List.take_of_length_le (by rw [ca_len h32b]; exact Nat.le_refl _))) (fun a hF => ?_)
          refine vp_yg hF rfl rfl rfl rfl rfl rfl rfl (by decide) _ (fun x hx => y_move rfl rfl) (fun a hF => ?_)
          refine vp_yg hF rfl rfl rfl rfl rfl rfl rfl (by decide) _ (fun x hx => y_move rfl rfl) (fun a hF => ?_)
          refine vp_yg hF rfl rfl rfl rfl rfl rfl rfl (by decide) _ (fun x hx => y_ixSl rfl Tryz.underlying23 sz9_v14 rfl rfl i rfl hlt (ad2 _ _ _)) (fun a hF => ?_)
          refine vp_yg hF rfl rfl rfl rfl rfl rfl rfl (by decide) _ (fun x hx => y_ldC (u := strV q) rfl (Hq.sub hx (List.nil_subset _)) rfl hcq i (by rw [List.length_map]; exact hlt) rfl (by rw [List.getElem?_map, hpq]; rfl) nr9_v14) (fun a hF => ?_)
          refine vp_lg hF rfl rfl rfl rfl rfl rfl (fun K hK => ws_call hF rfl (by decide) cl26_v14 rfl rfl ?_)
          with_reducible refine (st_heldL ca q _ hC (List.nil_subset _) hA20 ).mono ?_
          rintro e' w21 ⟨va, rfl, hva, hvao, hA22⟩
          refine ⟨_, rfl, fun a hF => hK _ _ (fun _ => ?_) ?_⟩
          · exact Hp.qp [ZS2, ZS1, [row b10 52 cb.cells], [row b7 52 ca.cells], [row b4 49 (.int .i64 n2 :: dc d2)], [row b1 49 (.int .i64 n1 :: dc d1)]] [] [0, 1, 2, 3, 4, 5] hA22
          clear hK K
          replace hA22 : Hp w0 (ZS2 :: ZS1 :: [row b10 52 cb.cells] :: [row b7 52 ca.cells] :: [row b4 49 (.int .i64 n2 :: dc d2)] :: [row b1 49 (.int .i64 n1 :: dc d1)] :: []) w21 := hA22
          have hvai : vs[i]? = some va.v := by rw [hvs, List.getElem?_map, hpq, hva]; rfl
          refine vp_lg hF rfl rfl rfl rfl rfl rfl (fun K hK => ws_call hF rfl (by decide) cl26_v14 rfl rfl ?_)
          with_reducible refine (st_heldL cb q _ hD (List.nil_subset _) hA22 ).mono ?_
          rintro e' w23 ⟨vb, rfl, hvb, hvbo, hA24⟩
          refine ⟨_, rfl, fun a hF => hK _ _ (fun _ => ?_) ?_⟩
          · exact Hp.qp [ZS2, ZS1, [row b10 52 cb.cells], [row b7 52 ca.cells], [row b4 49 (.int .i64 n2 :: dc d2)], [row b1 49 (.int .i64 n1 :: dc d1)]] [] [0, 1, 2, 3, 4, 5] hA24
          clear hK K
          replace hA24 : Hp w0 (ZS2 :: ZS1 :: [row b10 52 cb.cells] :: [row b7 52 ca.cells] :: [row b4 49 (.int .i64 n2 :: dc d2)] :: [row b1 49 (.int .i64 n1 :: dc d1)] :: []) w23 := hA24
          have hvbi : us[i]? = some vb.v := by rw [hus, List.getElem?_map, hpq, hvb]; rfl
          refine vp_lg hF rfl rfl rfl rfl rfl rfl (fun K hK => ws_call hF rfl (by decide) cl25_v14 rfl rfl ?_)
          with_reducible refine (ev_sameV va vb _ hvao (List.nil_subset _) hvbo (List.nil_subset _) hA24 ).mono ?_
          rintro e' w25 ⟨rfl, hA26⟩
          refine ⟨_, rfl, fun a hF => hK _ _ (fun _ => ?_) ?_⟩
          · exact Hp.qp [ZS2, ZS1, [row b10 52 cb.cells], [row b7 52 ca.cells], [row b4 49 (.int .i64 n2 :: dc d2)], [row b1 49 (.int .i64 n1 :: dc d1)]] [] [0, 1, 2, 3, 4, 5] hA26
          clear hK K
          replace hA26 : Hp w0 (ZS2 :: ZS1 :: [row b10 52 cb.cells] :: [row b7 52 ca.cells] :: [row b4 49 (.int .i64 n2 :: dc d2)] :: [row b1 49 (.int .i64 n1 :: dc d1)] :: []) w25 := hA26
          refine vp_y hF rfl rfl rfl rfl (by decide) _ (fun x hx => y_pick rfl rfl rfl) (fun a hF => ?_)
          refine vp_ly hF rfl rfl rfl rfl (by decide) _ (y_assign rfl rfl) (fun h => absurd h (by decide)) (fun a hF => ?_)
          refine plan_end ?_
          refine hK12 _ _ ?_; clear  hK12 K12
          refine wp_region_lit ?_
          refine vc_y hF rfl rfl (by decide) _ (y_move rfl rfl) (fun a hF => ?_)
          refine vc_y hF rfl rfl (by decide) _ (y_add rfl rfl rfl (IntWalk.i64_in _ (by omega))) (fun a hF => ?_)
          refine vc_y hF rfl rfl (by decide) _ (y_assign rfl rfl) (fun a hF => ?_)
          refine vc_nil ?_
          rw [← hsq] at hF
          exact ⟨i + 1, by omega, _, by omega, step_t hal hvai hvbi decide_eq_true_iff, hF.keep [20, 19, 4, 5, 6, 7, 8, 9, 10, 15, 17] rfl, hA26⟩
      · refine vc_falseB hF rfl (lss_f (by omega)) ?_
        obtain rfl : i = l1.length := by omega
        rw [← show vs.length = l1.length by rw [hvs, List.length_map], List.take_length, show vs.length = us.length by rw [hvs, hus, List.length_map, List.length_map], List.take_length] at hal
        apply wp_exit
        refine hK7 _ _ ?_; clear hK9 K9 hK7 K7
        apply wp_seq_k; intro K13 hK13
        apply wp_seq_k; intro K14 hK14
        refine wp_region_lit ?_
        refine vc_y hF rfl rfl (by decide) _ (y_assign rfl rfl) (fun a hF => ?_)
        refine vc_nil ?_
        refine hK14 _ _ ?_; clear  hK14 K14
        apply wp_block
        refine vc_loop (G := Nat) (fun i a x => ∃ (al : Bool), i ≤ l2.length ∧ ((al = true) ↔ ((((n1 = n2 ∧ d1 = d2) ∧ ca.typ = cb.typ) ∧ vs = us) ∧ lf.take i = lg.take i)) ∧ Fr 199 [(21, .int .i64 (i : Int)), (19, .bool al), (4, .slice A1 l1.length c1), (5, .slice A2 l2.length c2), (6, .slice A3 l3.length c3), (7, .pointer (some ⟨b1, 0, none⟩)), (8, .pointer (some ⟨b4, 0, none⟩)), (9, .pointer (some ⟨b7, 0, none⟩)), (10, .pointer (some ⟨b10, 0, none⟩)), (15, .slice AS1 ((stX ca n1 d1 l1 l2 l3).length) cS1), (17, .slice AS2 ((stX cb n2 d2 l1 l2 l3).length) cS2)] a ∧ Hp w0 (ZS2 :: ZS1 :: [row b10 52 cb.cells] :: [row b7 52 ca.cells] :: [row b4 49 (.int .i64 n2 :: dc d2)] :: [row b1 49 (.int .i64 n1 :: dc d1)] :: []) x) (fun i => l2.length - i) 0 (⟨_, Nat.zero_le _, (tells_n hal), hF.keep [21, 19, 4, 5, 6, 7, 8, 9, 10, 15, 17] rfl, hA17⟩) ?_
        clear hF
        rintro i a w28 ⟨al, hi, hal, hF, hA27⟩
        apply wp_seq_k; intro K15 hK15
        apply wp_seq_k; intro K16 hK16
        refine wp_region_lit ?_
        refine vc_y hF rfl rfl (by decide) _ (y_move rfl rfl) (fun a hF => ?_)
        refine vc_y hF rfl rfl (by decide) _ (y_move rfl rfl) (fun a hF => ?_)
        refine vc_y hF rfl rfl (by decide) _ (y_lenSl rfl Tryz.underlying23 rfl rfl) (fun a hF => ?_)
        refine vc_y hF rfl rfl (by decide) _ (y_cmp rfl rfl rfl rfl rfl) (fun a hF => ?_)
        refine vc_nil ?_
        refine hK16 _ _ ?_; clear  hK16 K16
        by_cases hlt : i < l2.length
        · refine vc_trueB hF rfl (lss_t (by omega)) ?_
          obtain ⟨q, hpq⟩ : ∃ q, l2[i]? = some q := ⟨_, List.getElem?_eq_getElem hlt⟩
          obtain ⟨bq, oq, hsq, hcq⟩ := h2.ne (i := i) (by rw [List.length_map]; exact hlt)
          rw [hsq] at hF
          rcases tf al with ht | ht
          · subst ht
            apply wp_skip
            refine hK15 _ _ ?_; clear  hK15 K15
            apply wp_seq_k; intro K17 hK17
            apply wp_block
            refine wp_region_plan 16 [7,13,16] [0,1,2,3,4,5,6,8,9,10,11,12,7,13,14,15,16] (fun x => Hq w0 (ZS2 :: ZS1 :: [row b10 52 cb.cells] :: [row b7 52 ca.cells] :: [row b4 49 (.int .i64 n2 :: dc d2)] :: [row b1 49 (.int .i64 n1 :: dc d1)] :: []) x) (by kernel_rfl) (by kernel_rfl) (Hq.drew (Hp.qp [ZS2, ZS1, [row b10 52 cb.cells], [row b7 52 ca.cells], [row b4 49 (.int .i64 n2 :: dc d2)], [row b1 49 (.int .i64 n1 :: dc d1)]] [] [0, 1, 2, 3, 4, 5] hA27)) ?_
            have hA29 := Hl.drew hA27
            refine vp_y hF rfl rfl rfl rfl (by decide) _ (fun x hx => y_move rfl rfl) (fun a hF => ?_)
            refine vp_y hF rfl rfl rfl rfl (by decide) _ (fun x hx => y_move rfl rfl) (fun a hF => ?_)
            refine vp_skip hF rfl rfl rfl rfl rfl rfl rfl rfl (by decide) (fun a hF => ?_)
            refine vp_skip hF rfl rfl rfl rfl rfl rfl rfl rfl (by decide) (fun a hF => ?_)
            refine vp_skip hF rfl rfl rfl rfl rfl rfl rfl rfl (by decide) (fun a hF => ?_)
            refine vp_skip hF rfl rfl rfl rfl rfl rfl rfl rfl (by decide) (fun a hF => ?_)
            refine vp_skip hF rfl rfl rfl rfl rfl rfl rfl rfl (by decide) (fun a hF => ?_)
            refine vp_skip hF rfl rfl rfl rfl rfl rfl rfl rfl (by decide) (fun a hF => ?_)
            refine vp_skip hF rfl rfl rfl rfl rfl rfl rfl rfl (by decide) (fun a hF => ?_)
            refine vp_skip hF rfl rfl rfl rfl rfl rfl rfl rfl (by decide) (fun a hF => ?_)
            refine vp_skip hF rfl rfl rfl rfl rfl rfl rfl rfl (by decide) (fun a hF => ?_)
            refine vp_skip hF rfl rfl rfl rfl rfl rfl rfl rfl (by decide) (fun a hF => ?_)
            refine vp_skipl hF rfl rfl rfl rfl rfl rfl rfl rfl (by decide) (Hp.qp [ZS2, ZS1, [row b10 52 cb.cells], [row b7 52 ca.cells], [row b4 49 (.int .i64 n2 :: dc d2)], [row b1 49 (.int .i64 n1 :: dc d1)]] [] [0, 1, 2, 3, 4, 5] hA29) (fun a hF => ?_)
            refine vp_skipl hF rfl rfl rfl rfl rfl rfl rfl rfl (by decide) (Hp.qp [ZS2, ZS1, [row b10 52 cb.cells], [row b7 52 ca.cells], [row b4 49 (.int .i64 n2 :: dc d2)], [row b1 49 (.int .i64 n1 :: dc d1)]] [] [0, 1, 2, 3, 4, 5] hA29) (fun a hF => ?_)
            refine vp_skip hF rfl rfl rfl rfl rfl rfl rfl rfl (by decide) (fun a hF => ?_)
            refine vp_y hF rfl rfl rfl rfl (by decide) _ (fun x hx => y_pick rfl rfl rfl) (fun a hF => ?_)
            refine vp_ly hF rfl rfl rfl rfl (by decide) _ (y_assign rfl rfl) (fun h => absurd h (by decide)) (fun a hF => ?_)
            refine plan_end ?_
            refine hK17 _ _ ?_; clear  hK17 K17
            refine wp_region_lit ?_
            refine vc_y hF rfl rfl (by decide) _ (y_move rfl rfl) (fun a hF => ?_)
            refine vc_y hF rfl rfl (by decide) _ (y_add rfl rfl rfl (IntWalk.i64_in _ (by omega))) (fun a hF => ?_)
            refine vc_y hF rfl rfl (by decide) _ (y_assign rfl rfl) (fun a hF => ?_)
            refine vc_nil ?_
            rw [← hsq] at hF
            exact ⟨i + 1, by omega, _, by omega, step_f hal, hF.keep [21, 19, 4, 5, 6, 7, 8, 9, 10, 15, 17] rfl, hA29⟩
          · subst ht
            apply wp_skip
            refine hK15 _ _ ?_; clear  hK15 K15
            apply wp_seq_k; intro K18 hK18
            apply wp_block
            refine wp_region_plan 16 [7,13,16] [0,1,2,3,4,5,6,8,9,10,11,12,7,13,14,15,16] (fun x => Hq w0 (ZS2 :: ZS1 :: [row b10 52 cb.cells] :: [row b7 52 ca.cells] :: [row b4 49 (.int .i64 n2 :: dc d2)] :: [row b1 49 (.int .i64 n1 :: dc d1)] :: []) x) (by kernel_rfl) (by kernel_rfl) (Hq.drew (Hp.qp [ZS2, ZS1, [row b10 52 cb.cells], [row b7 52 ca.cells], [row b4 49 (.int .i64 n2 :: dc d2)], [row b1 49 (.int .i64 n1 :: dc d1)]] [] [0, 1, 2, 3, 4, 5] hA27)) ?_
            have hA30 := Hl.drew hA27
            refine vp_y hF rfl rfl rfl rfl (by decide) _ (fun x hx => y_move rfl rfl) (fun a hF => ?_)
            refine vp_y hF rfl rfl rfl rfl (by decide) _ (fun x hx => y_move rfl rfl) (fun a hF => ?_)
            refine vp_yg hF rfl rfl rfl rfl rfl rfl rfl (by decide) _ (fun x hx => y_ldRow (new := ca.cells) rfl hx rfl 3 rfl rw52_v14 (by rw [ca_len h32]; exact Nat.le_refl _) (by rw [List.drop_zero]; exact List.take_of_length_le (by rw [ca_len h32]; exact Nat.le_refl _))) (fun a hF => ?_)
            refine vp_yg hF rfl rfl rfl rfl rfl rfl rfl (by decide) _ (fun x hx => y_move rfl rfl) (fun a hF => ?_)
            refine vp_yg hF rfl rfl rfl rfl rfl rfl rfl (by decide) _ (fun x hx => y_move rfl rfl) (fun a hF => ?_)
            refine vp_yg hF rfl rfl rfl rfl rfl rfl rfl (by decide) _ (fun x hx => y_ixSl rfl Tryz.underlying23 sz9_v14 rfl rfl i rfl hlt (ad2 _ _ _)) (fun a hF => ?_)
            refine vp_yg hF rfl rfl rfl rfl rfl rfl rfl (by decide) _ (fun x hx => y_ldC (u := strV q) rfl (Hq.sub hx (List.nil_subset _)) rfl hcq i (by rw [List.length_map]; exact hlt) rfl (by rw [List.getElem?_map, hpq]; rfl) nr9_v14) (fun a hF => ?_)
            refine vp_yg hF rfl rfl rfl rfl rfl rfl rfl (by decide) _ (fun x hx => y_ldRow (new := cb.cells) rfl hx rfl 2 rfl rw52_v14 (by rw [ca_len h32b]; exact Nat.le_refl _) (by rw [List.drop_zero]; exact List.take_of_length_le (by rw [ca_len h32b]; exact Nat.le_refl _))) (fun a hF => ?_)
            refine vp_yg hF rfl rfl rfl rfl rfl rfl rfl (by decide) _ (fun x hx => y_move rfl rfl) (fun a hF => ?_)
            refine vp_yg hF rfl rfl rfl rfl rfl rfl rfl (by decide) _ (fun x hx => y_move rfl rfl) (fun a hF => ?_)
            refine vp_yg hF rfl rfl rfl rfl rfl rfl rfl (by decide) _ (fun x hx => y_ixSl rfl Tryz.underlying23 sz9_v14 rfl rfl i rfl hlt (ad2 _ _ _)) (fun a hF => ?_)
            refine vp_yg hF rfl rfl rfl rfl rfl rfl rfl (by decide) _ (fun x hx => y_ldC (u := strV q) rfl (Hq.sub hx (List.nil_subset _)) rfl hcq i (by rw [List.length_map]; exact hlt) rfl (by rw [List.getElem?_map, hpq]; rfl) nr9_v14) (fun a hF => ?_)
            refine vp_lg hF rfl rfl rfl rfl rfl rfl (fun K hK => ws_call hF rfl (by decide) cl27_v14 rfl rfl ?_)
            with_reducible refine (st_life ca q _ hC (List.nil_subset _) hA30 ).mono ?_
            rintro e' w31 ⟨rfl, hA32⟩
            refine ⟨_, rfl, fun a hF => hK _ _ (fun _ => ?_) ?_⟩
            · exact Hp.qp [ZS2, ZS1, [row b10 52 cb.cells], [row b7 52 ca.cells], [row b4 49 (.int .i64 n2 :: dc d2)], [row b1 49 (.int .i64 n1 :: dc d1)]] [] [0, 1, 2, 3, 4, 5] hA32
            clear hK K
            replace hA32 : Hp w0 (ZS2 :: ZS1 :: [row b10 52 cb.cells] :: [row b7 52 ca.cells] :: [row b4 49 (.int .i64 n2 :: dc d2)] :: [row b1 49 (.int .i64 n1 :: dc d1)] :: []) w31 := hA32
            refine vp_lg hF rfl rfl rfl rfl rfl rfl (fun K hK => ws_call hF rfl (by decide) cl27_v14 rfl rfl ?_)
            with_reducible refine (st_life cb q _ hD (List.nil_subset _) hA32 ).mono ?_
            rintro e' w33 ⟨rfl, hA34⟩
            refine ⟨_, rfl, fun a hF => hK _ _ (fun _ => ?_) ?_⟩
            · exact Hp.qp [ZS2, ZS1, [row b10 52 cb.cells], [row b7 52 ca.cells], [row b4 49 (.int .i64 n2 :: dc d2)], [row b1 49 (.int .i64 n1 :: dc d1)]] [] [0, 1, 2, 3, 4, 5] hA34
            clear hK K
            replace hA34 : Hp w0 (ZS2 :: ZS1 :: [row b10 52 cb.cells] :: [row b7 52 ca.cells] :: [row b4 49 (.int .i64 n2 :: dc d2)] :: [row b1 49 (.int .i64 n1 :: dc d1)] :: []) w33 := hA34
            refine vp_yg hF rfl rfl rfl rfl rfl rfl rfl (by decide) _ (fun x hx => y_cmp rfl rfl rfl rfl rfl) (fun a hF => ?_)
            refine vp_y hF rfl rfl rfl rfl (by decide) _ (fun x hx => y_pick rfl rfl rfl) (fun a hF => ?_)
            refine vp_ly hF rfl rfl rfl rfl (by decide) _ (y_assign rfl rfl) (fun h => absurd h (by decide)) (fun a hF => ?_)
            refine plan_end ?_
            refine hK18 _ _ ?_; clear  hK18 K18
            refine wp_region_lit ?_
            refine vc_y hF rfl rfl (by decide) _ (y_move rfl rfl) (fun a hF => ?_)
            refine vc_y hF rfl rfl (by decide) _ (y_add rfl rfl rfl (IntWalk.i64_in _ (by omega))) (fun a hF => ?_)
            refine vc_y hF rfl rfl (by decide) _ (y_assign rfl rfl) (fun a hF => ?_)
            refine vc_nil ?_
            rw [← hsq] at hF
            exact ⟨i + 1, by omega, _, by omega, step_t hal (x := lifeN ca.opn ca.clo q) (y := lifeN cb.opn cb.clo q) (by rw [hlf, List.getElem?_map, hpq]; rfl) (by rw [hlg, List.getElem?_map, hpq]; rfl) eqlN_iff, hF.keep [21, 19, 4, 5, 6, 7, 8, 9, 10, 15, 17] rfl, hA34⟩
        · refine vc_falseB hF rfl (lss_f (by omega)) ?_
          obtain rfl : i = l2.length := by omega
          rw [← show lf.length = l2.length by rw [hlf, List.length_map], List.take_length, show lf.length = lg.length by rw [hlf, hlg, List.length_map, List.length_map], List.take_length] at hal
          apply wp_exit
          refine hK13 _ _ ?_; clear hK15 K15 hK13 K13
          apply wp_seq_k; intro K19 hK19
          apply wp_seq_k; intro K20 hK20
          refine wp_region_lit ?_
          refine vc_y hF rfl rfl (by decide) _ (y_assign rfl rfl) (fun a hF => ?_)
          refine vc_nil ?_
          refine hK20 _ _ ?_; clear  hK20 K20
          apply wp_block
          refine vc_loop (G := Nat) (fun i a x => ∃ (al : Bool), i ≤ l3.length ∧ ((al = true) ↔ (((((n1 = n2 ∧ d1 = d2) ∧ ca.typ = cb.typ) ∧ vs = us) ∧ lf = lg) ∧ mk.take i = mg.take i)) ∧ Fr 199 [(22, .int .i64 (i : Int)), (19, .bool al), (4, .slice A1 l1.length c1), (5, .slice A2 l2.length c2), (6, .slice A3 l3.length c3), (7, .pointer (some ⟨b1, 0, none⟩)), (8, .pointer (some ⟨b4, 0, none⟩)), (9, .pointer (some ⟨b7, 0, none⟩)), (10, .pointer (some ⟨b10, 0, none⟩)), (15, .slice AS1 ((stX ca n1 d1 l1 l2 l3).length) cS1), (17, .slice AS2 ((stX cb n2 d2 l1 l2 l3).length) cS2)] a ∧ Hp w0 (ZS2 :: ZS1 :: [row b10 52 cb.cells] :: [row b7 52 ca.cells] :: [row b4 49 (.int .i64 n2 :: dc d2)] :: [row b1 49 (.int .i64 n1 :: dc d1)] :: []) x) (fun i => l3.length - i) 0 (⟨_, Nat.zero_le _, (tells_n hal), hF.keep [22, 19, 4, 5, 6, 7, 8, 9, 10, 15, 17] rfl, hA27⟩) ?_
          clear hF
          rintro i a w36 ⟨al, hi, hal, hF, hA35⟩
          apply wp_seq_k; intro K21 hK21
          apply wp_seq_k; intro K22 hK22
          refine wp_region_lit ?_
          refine vc_y hF rfl rfl (by decide) _ (y_move rfl rfl) (fun a hF => ?_)
          refine vc_y hF rfl rfl (by decide) _ (y_move rfl rfl) (fun a hF => ?_)
          refine vc_y hF rfl rfl (by decide) _ (y_lenSl rfl Tryz.underlying23 rfl rfl) (fun a hF => ?_)
          refine vc_y hF rfl rfl (by decide) _ (y_cmp rfl rfl rfl rfl rfl) (fun a hF => ?_)
          refine vc_nil ?_
          refine hK22 _ _ ?_; clear  hK22 K22
          by_cases hlt : i < l3.length
          · refine vc_trueB hF rfl (lss_t (by omega)) ?_
            obtain ⟨q, hpq⟩ : ∃ q, l3[i]? = some q := ⟨_, List.getElem?_eq_getElem hlt⟩
            obtain ⟨bq, oq, hsq, hcq⟩ := h3.ne (i := i) (by rw [List.length_map]; exact hlt)
            rw [hsq] at hF
            rcases tf al with ht | ht
            · subst ht
              apply wp_skip
              refine hK21 _ _ ?_; clear  hK21 K21
              apply wp_seq_k; intro K23 hK23
              apply wp_block
              refine wp_region_plan 18 [8,15,18] [0,1,2,3,4,5,6,7,9,10,11,12,13,14,8,15,16,17,18] (fun x => Hq w0 (ZS2 :: ZS1 :: [row b10 52 cb.cells] :: [row b7 52 ca.cells] :: [row b4 49 (.int .i64 n2 :: dc d2)] :: [row b1 49 (.int .i64 n1 :: dc d1)] :: []) x) (by kernel_rfl) (by kernel_rfl) (Hq.drew (Hp.qp [ZS2, ZS1, [row b10 52 cb.cells], [row b7 52 ca.cells], [row b4 49 (.int .i64 n2 :: dc d2)], [row b1 49 (.int .i64 n1 :: dc d1)]] [] [0, 1, 2, 3, 4, 5] hA35)) ?_
              have hA37 := Hl.drew hA35
              refine vp_y hF rfl rfl rfl rfl (by decide) _ (fun x hx => y_move rfl rfl) (fun a hF => ?_)
              refine vp_y hF rfl rfl rfl rfl (by decide) _ (fun x hx => y_move rfl rfl) (fun a hF => ?_)
              refine vp_skip hF rfl rfl rfl rfl rfl rfl rfl rfl (by decide) (fun a hF => ?_)
              refine vp_skip hF rfl rfl rfl rfl rfl rfl rfl rfl (by decide) (fun a hF => ?_)
              refine vp_skip hF rfl rfl rfl rfl rfl rfl rfl rfl (by decide) (fun a hF => ?_)
              refine vp_skip hF rfl rfl rfl rfl rfl rfl rfl rfl (by decide) (fun a hF => ?_)
              refine vp_skip hF rfl rfl rfl rfl rfl rfl rfl rfl (by decide) (fun a hF => ?_)
              refine vp_skip hF rfl rfl rfl rfl rfl rfl rfl rfl (by decide) (fun a hF => ?_)
              refine vp_skip hF rfl rfl rfl rfl rfl rfl rfl rfl (by decide) (fun a hF => ?_)
              refine vp_skip hF rfl rfl rfl rfl rfl rfl rfl rfl (by decide) (fun a hF => ?_)
              refine vp_skip hF rfl rfl rfl rfl rfl rfl rfl rfl (by decide) (fun a hF => ?_)
              refine vp_skip hF rfl rfl rfl rfl rfl rfl rfl rfl (by decide) (fun a hF => ?_)
              refine vp_skip hF rfl rfl rfl rfl rfl rfl rfl rfl (by decide) (fun a hF => ?_)
              refine vp_skip hF rfl rfl rfl rfl rfl rfl rfl rfl (by decide) (fun a hF => ?_)
              refine vp_skipl hF rfl rfl rfl rfl rfl rfl rfl rfl (by decide) (Hp.qp [ZS2, ZS1, [row b10 52 cb.cells], [row b7 52 ca.cells], [row b4 49 (.int .i64 n2 :: dc d2)], [row b1 49 (.int .i64 n1 :: dc d1)]] [] [0, 1, 2, 3, 4, 5] hA37) (fun a hF => ?_)
              refine vp_skipl hF rfl rfl rfl rfl rfl rfl rfl rfl (by decide) (Hp.qp [ZS2, ZS1, [row b10 52 cb.cells], [row b7 52 ca.cells], [row b4 49 (.int .i64 n2 :: dc d2)], [row b1 49 (.int .i64 n1 :: dc d1)]] [] [0, 1, 2, 3, 4, 5] hA37) (fun a hF => ?_)
              refine vp_skip hF rfl rfl rfl rfl rfl rfl rfl rfl (by decide) (fun a hF => ?_)
              refine vp_y hF rfl rfl rfl rfl (by decide) _ (fun x hx => y_pick rfl rfl rfl) (fun a hF => ?_)
              refine vp_ly hF rfl rfl rfl rfl (by decide) _ (y_assign rfl rfl) (fun h => absurd h (by decide)) (fun a hF => ?_)
              refine plan_end ?_
              refine hK23 _ _ ?_; clear  hK23 K23
              refine wp_region_lit ?_
              refine vc_y hF rfl rfl (by decide) _ (y_move rfl rfl) (fun a hF => ?_)
              refine vc_y hF rfl rfl (by decide) _ (y_add rfl rfl rfl (IntWalk.i64_in _ (by omega))) (fun a hF => ?_)
              refine vc_y hF rfl rfl (by decide) _ (y_assign rfl rfl) (fun a hF => ?_)
              refine vc_nil ?_
              rw [← hsq] at hF
              exact ⟨i + 1, by omega, _, by omega, step_f hal, hF.keep [22, 19, 4, 5, 6, 7, 8, 9, 10, 15, 17] rfl, hA37⟩
            · subst ht
              apply wp_skip
              refine hK21 _ _ ?_; clear  hK21 K21
              apply wp_seq_k; intro K24 hK24
              apply wp_block
              refine wp_region_plan 18 [8,15,18] [0,1,2,3,4,5,6,7,9,10,11,12,13,14,8,15,16,17,18] (fun x => Hq w0 (ZS2 :: ZS1 :: [row b10 52 cb.cells] :: [row b7 52 ca.cells] :: [row b4 49 (.int .i64 n2 :: dc d2)] :: [row b1 49 (.int .i64 n1 :: dc d1)] :: []) x) (by kernel_rfl) (by kernel_rfl) (Hq.drew (Hp.qp [ZS2, ZS1, [row b10 52 cb.cells], [row b7 52 ca.cells], [row b4 49 (.int .i64 n2 :: dc d2)], [row b1 49 (.int .i64 n1 :: dc d1)]] [] [0, 1, 2, 3, 4, 5] hA35)) ?_
              have hA38 := Hl.drew hA35
              refine vp_y hF rfl rfl rfl rfl (by decide) _ (fun x hx => y_move rfl rfl) (fun a hF => ?_)
              refine vp_y hF rfl rfl rfl rfl (by decide) _ (fun x hx => y_move rfl rfl) (fun a hF => ?_)
              refine vp_yg hF rfl rfl rfl rfl rfl rfl rfl (by decide) _ (fun x hx => y_field rfl Tryz.underlying52 rfl sz23_v14 (by decide) rfl (rfl : (⟨_, 0 + _, none⟩ : Addr) = ⟨_, 38, none⟩)) (fun a hF => ?_)
              refine vp_yg hF rfl rfl rfl rfl rfl rfl rfl (by decide) _ (fun x hx => y_ld (u := .slice ca.rA ca.rea.length ca.rC) rfl hx rfl 3 rfl (ca_at h32 3) nr23_v14) (fun a hF => ?_)
              refine vp_yg hF rfl rfl rfl rfl rfl rfl rfl (by decide) _ (fun x hx => y_move rfl rfl) (fun a hF => ?_)
              refine vp_yg hF rfl rfl rfl rfl rfl rfl rfl (by decide) _ (fun x hx => y_move rfl rfl) (fun a hF => ?_)
              refine vp_yg hF rfl rfl rfl rfl rfl rfl rfl (by decide) _ (fun x hx => y_ixSl rfl Tryz.underlying23 sz9_v14 rfl rfl i rfl hlt (ad2 _ _ _)) (fun a hF => ?_)
              refine vp_yg hF rfl rfl rfl rfl rfl rfl rfl (by decide) _ (fun x hx => y_ldC (u := strV q) rfl (Hq.sub hx (List.nil_subset _)) rfl hcq i (by rw [List.length_map]; exact hlt) rfl (by rw [List.getElem?_map, hpq]; rfl) nr9_v14) (fun a hF => ?_)
              refine vp_yg hF rfl rfl rfl rfl rfl rfl rfl (by decide) _ (fun x hx => y_field rfl Tryz.underlying52 rfl sz23_v14 (by decide) rfl (rfl : (⟨_, 0 + _, none⟩ : Addr) = ⟨_, 38, none⟩)) (fun a hF => ?_)
              refine vp_yg hF rfl rfl rfl rfl rfl rfl rfl (by decide) _ (fun x hx => y_ld (u := .slice cb.rA cb.rea.length cb.rC) rfl hx rfl 2 rfl (ca_at h32b 3) nr23_v14) (fun a hF => ?_)
              refine vp_yg hF rfl rfl rfl rfl rfl rfl rfl (by decide) _ (fun x hx => y_move rfl rfl) (fun a hF => ?_)
              refine vp_yg hF rfl rfl rfl rfl rfl rfl rfl (by decide) _ (fun x hx => y_move rfl rfl) (fun a hF => ?_)
              refine vp_yg hF rfl rfl rfl rfl rfl rfl rfl (by decide) _ (fun x hx => y_ixSl rfl Tryz.underlying23 sz9_v14 rfl rfl i rfl hlt (ad2 _ _ _)) (fun a hF => ?_)
              refine vp_yg hF rfl rfl rfl rfl rfl rfl rfl (by decide) _ (fun x hx => y_ldC (u := strV q) rfl (Hq.sub hx (List.nil_subset _)) rfl hcq i (by rw [List.length_map]; exact hlt) rfl (by rw [List.getElem?_map, hpq]; rfl) nr9_v14) (fun a hF => ?_)
              refine vp_lg hF rfl rfl rfl rfl rfl rfl (fun K hK => ws_call hF rfl (by decide) cl28_v14 rfl rfl ?_)
              with_reducible refine (st_among ca.rA ca.rea ca.rC q _ hC.rer (List.nil_subset _) hC.rel hA38 ).mono ?_
              rintro e' w39 ⟨rfl, hA40⟩
              refine ⟨_, rfl, fun a hF => hK _ _ (fun _ => ?_) ?_⟩
              · exact Hp.qp [ZS2, ZS1, [row b10 52 cb.cells], [row b7 52 ca.cells], [row b4 49 (.int .i64 n2 :: dc d2)], [row b1 49 (.int .i64 n1 :: dc d1)]] [] [0, 1, 2, 3, 4, 5] hA40
              clear hK K
              replace hA40 : Hp w0 (ZS2 :: ZS1 :: [row b10 52 cb.cells] :: [row b7 52 ca.cells] :: [row b4 49 (.int .i64 n2 :: dc d2)] :: [row b1 49 (.int .i64 n1 :: dc d1)] :: []) w39 := hA40
              refine vp_lg hF rfl rfl rfl rfl rfl rfl (fun K hK => ws_call hF rfl (by decide) cl28_v14 rfl rfl ?_)
              with_reducible refine (st_among cb.rA cb.rea cb.rC q _ hD.rer (List.nil_subset _) hD.rel hA40 ).mono ?_
              rintro e' w41 ⟨rfl, hA42⟩
              refine ⟨_, rfl, fun a hF => hK _ _ (fun _ => ?_) ?_⟩
              · exact Hp.qp [ZS2, ZS1, [row b10 52 cb.cells], [row b7 52 ca.cells], [row b4 49 (.int .i64 n2 :: dc d2)], [row b1 49 (.int .i64 n1 :: dc d1)]] [] [0, 1, 2, 3, 4, 5] hA42
              clear hK K
              replace hA42 : Hp w0 (ZS2 :: ZS1 :: [row b10 52 cb.cells] :: [row b7 52 ca.cells] :: [row b4 49 (.int .i64 n2 :: dc d2)] :: [row b1 49 (.int .i64 n1 :: dc d1)] :: []) w41 := hA42
              refine vp_yg hF rfl rfl rfl rfl rfl rfl rfl (by decide) _ (fun x hx => y_eqBool rfl Tryz.underlying4 rfl rfl rfl) (fun a hF => ?_)
              refine vp_y hF rfl rfl rfl rfl (by decide) _ (fun x hx => y_pick rfl rfl rfl) (fun a hF => ?_)
              refine vp_ly hF rfl rfl rfl rfl (by decide) _ (y_assign rfl rfl) (fun h => absurd h (by decide)) (fun a hF => ?_)
              refine plan_end ?_
              refine hK24 _ _ ?_; clear  hK24 K24
              refine wp_region_lit ?_
              refine vc_y hF rfl rfl (by decide) _ (y_move rfl rfl) (fun a hF => ?_)
              refine vc_y hF rfl rfl (by decide) _ (y_add rfl rfl rfl (IntWalk.i64_in _ (by omega))) (fun a hF => ?_)
              refine vc_y hF rfl rfl (by decide) _ (y_assign rfl rfl) (fun a hF => ?_)
              refine vc_nil ?_
              rw [← hsq] at hF
              exact ⟨i + 1, by omega, _, by omega, step_t hal (x := decide (q ∈ ca.rea)) (y := decide (q ∈ cb.rea)) (by rw [hmk, List.getElem?_map, hpq]; rfl) (by rw [hmg, List.getElem?_map, hpq]; rfl) beq_iff_eq, hF.keep [22, 19, 4, 5, 6, 7, 8, 9, 10, 15, 17] rfl, hA42⟩
          · refine vc_falseB hF rfl (lss_f (by omega)) ?_
            obtain rfl : i = l3.length := by omega
            rw [← show mk.length = l3.length by rw [hmk, List.length_map], List.take_length, show mk.length = mg.length by rw [hmk, hmg, List.length_map, List.length_map], List.take_length] at hal
            have hse : al = decide ((stX ca n1 d1 l1 l2 l3) = (stX cb n2 d2 l1 l2 l3)) := by
              rw [Bool.eq_iff_iff, decide_eq_true_iff, hal, hvs, hus, hlf, hlg, hmk, hmg]
              exact (tells_iff hn1 hn2 hd1 hd2 hC hD hE1 hE2).symm
            obtain ⟨k1, hk1, hx0, hx1, hx2⟩ := st_two (n := n1) (ch := d1) hE1
            obtain ⟨bx, ox, hAx, hcx⟩ := hRS1.ne (i := 0) (by rw [dc_length]; omega)
            have hFn := hF
            subst hAx
            have hF := hFn
            clear hFn
            apply wp_exit
            refine hK19 _ _ ?_; clear hK21 K21 hK19 K19
            apply wp_seq_k; intro K25 hK25
            apply wp_seq_k; intro K26 hK26
            refine wp_region_lit ?_
            refine vc_y hF rfl rfl (by decide) _ (y_move rfl rfl) (fun a hF => ?_)
            refine vc_y hF rfl rfl (by decide) _ (y_move rfl rfl) (fun a hF => ?_)
            refine vc_y hF rfl rfl (by decide) _ (y_move rfl rfl) (fun a hF => ?_)
            refine vc_op rfl (fun K hK => ws_call hF rfl (by decide) cl23_v14 rfl rfl ?_)
            with_reducible refine (ev_sameB (l1 := (stX ca n1 d1 l1 l2 l3)) (l2 := (stX cb n2 d2 l1 l2 l3)) _ (Rc.mono hRS1 (List.cons_subset.2 ⟨(List.mem_cons_of_mem _ ((List.mem_cons_self ..))), List.nil_subset _⟩)) (Rc.mono hRS2 (List.cons_subset.2 ⟨((List.mem_cons_self ..)), List.nil_subset _⟩)) (by omega) hA35 ).mono ?_
            rintro e' w43 ⟨rfl, hA44⟩
            refine ⟨_, rfl, fun a hF => hK _ _ ?_⟩
            clear hK K
            replace hA44 : Hp w0 (ZS2 :: ZS1 :: [row b10 52 cb.cells] :: [row b7 52 ca.cells] :: [row b4 49 (.int .i64 n2 :: dc d2)] :: [row b1 49 (.int .i64 n1 :: dc d1)] :: []) w43 := hA44
            refine vc_y hF rfl rfl (by decide) _ (y_neBool rfl Tryz.underlying4 rfl rfl rfl) (fun a hF => ?_)
            refine vc_y hF rfl rfl (by decide) _ (y_move rfl rfl) (fun a hF => ?_)
            refine vc_meet (l2 := ?lA2) hF [(156, .bool ((!(al == (decide ((stX ca n1 d1 l1 l2 l3) = (stX cb n2 d2 l1 l2 l3))))) || (cmpB .lss ((stX ca n1 d1 l1 l2 l3).length) (2)))), (4, .slice A1 l1.length c1), (5, .slice A2 l2.length c2), (6, .slice A3 l3.length c3), (7, .pointer (some ⟨b1, 0, none⟩)), (8, .pointer (some ⟨b4, 0, none⟩)), (9, .pointer (some ⟨b7, 0, none⟩)), (10, .pointer (some ⟨b10, 0, none⟩)), (15, .slice (some ⟨bx, ox, none⟩) ((stX ca n1 d1 l1 l2 l3).length) cS1), (17, .slice AS2 ((stX cb n2 d2 l1 l2 l3).length) cS2), (19, .bool al)] (fun hJ2 => ?elA2) (fun a hF => ?flA2)
            case elA2 =>
              rcases tf (!(al == (decide ((stX ca n1 d1 l1 l2 l3) = (stX cb n2 d2 l1 l2 l3))))) with hg2 | hg2
              · refine vc_yg hF rfl rfl rfl rfl (some_bool hg2) (by decide) _ (y_move rfl rfl) (fun a hF => ?_)
                refine vc_yg hF rfl rfl rfl rfl (some_bool hg2) (by decide) _ (y_lenSl rfl Tryz.underlying27 rfl rfl) (fun a hF => ?_)
                refine vc_yg hF rfl rfl rfl rfl (some_bool hg2) (by decide) _ (y_cmp rfl rfl rfl rfl rfl) (fun a hF => ?_)
                refine vc_y hF rfl rfl (by decide) _ (y_pickF hg2 rfl rfl rfl) (fun a hF => ?_)
                exact hJ2 _ ((hF.keep [156, 4, 5, 6, 7, 8, 9, 10, 15, 17, 19] (F' := [(156, _), (4, _), (5, _), (6, _), (7, _), (8, _), (9, _), (10, _), (15, _), (17, _), (19, _)]) rfl).bool (by rw [hg2]; rfl))
              · refine vc_skip hF rfl rfl rfl rfl rfl (ne_want hg2) (by decide) (fun a hF => ?_)
                refine vc_skip hF rfl rfl rfl rfl rfl (ne_want hg2) (by decide) (fun a hF => ?_)
                refine vc_skip hF rfl rfl rfl rfl rfl (ne_want hg2) (by decide) (fun a hF => ?_)
                refine vc_y hF rfl rfl (by decide) _ (y_pickT hg2 rfl rfl rfl) (fun a hF => ?_)
                exact hJ2 _ ((hF.keep [156, 4, 5, 6, 7, 8, 9, 10, 15, 17, 19] (F' := [(156, _), (4, _), (5, _), (6, _), (7, _), (8, _), (9, _), (10, _), (15, _), (17, _), (19, _)]) rfl).bool (by rw [hg2]; rfl))
            refine vc_y hF rfl rfl (by decide) _ (y_move rfl rfl) (fun a hF => ?_)
            refine vc_meet (l2 := ?lA3) hF [(168, .bool (((!(al == (decide ((stX ca n1 d1 l1 l2 l3) = (stX cb n2 d2 l1 l2 l3))))) || (cmpB .lss ((stX ca n1 d1 l1 l2 l3).length) (2))) || ((cmpB .eql (0) (0)) && (cmpB .eql (k1) (0))))), (4, .slice A1 l1.length c1), (5, .slice A2 l2.length c2), (6, .slice A3 l3.length c3), (7, .pointer (some ⟨b1, 0, none⟩)), (8, .pointer (some ⟨b4, 0, none⟩)), (9, .pointer (some ⟨b7, 0, none⟩)), (10, .pointer (some ⟨b10, 0, none⟩)), (15, .slice (some ⟨bx, ox, none⟩) ((stX ca n1 d1 l1 l2 l3).length) cS1), (17, .slice AS2 ((stX cb n2 d2 l1 l2 l3).length) cS2), (19, .bool al)] (fun hJ3 => ?elA3) (fun a hF => ?flA3)
            case elA3 =>
              rcases tf ((!(al == (decide ((stX ca n1 d1 l1 l2 l3) = (stX cb n2 d2 l1 l2 l3))))) || (cmpB .lss ((stX ca n1 d1 l1 l2 l3).length) (2))) with hg3 | hg3
              · refine vc_yg hF rfl rfl rfl rfl (some_bool hg3) (by decide) _ (y_move rfl rfl) (fun a hF => ?_)
                refine vc_yg hF rfl rfl rfl rfl (some_bool hg3) (by decide) _ (y_ixSl rfl Tryz.underlying27 sz5_v14 rfl rfl 0 rfl (by omega) rfl) (fun a hF => ?_)
                refine vc_yg hF rfl rfl rfl rfl (some_bool hg3) (by decide) _ (y_ldC (u := .int .u8 0) rfl (Hq.sub hA44.q (List.cons_subset.2 ⟨(List.mem_cons_of_mem _ ((List.mem_cons_self ..))), List.nil_subset _⟩)) rfl hcx 0 (by rw [dc_length]; omega) rfl hx0 nr5_v14) (fun a hF => ?_)
                refine vc_yg hF rfl rfl rfl rfl (some_bool hg3) (by decide) _ (y_cmp rfl rfl rfl rfl rfl) (fun a hF => ?_)
                refine vc_yg hF rfl rfl rfl rfl (some_bool hg3) (by decide) _ (y_move rfl rfl) (fun a hF => ?_)
                refine vc_meet (l2 := ?lA4) hF [(167, .bool ((cmpB .eql (0) (0)) && (cmpB .eql (k1) (0)))), (4, .slice A1 l1.length c1), (5, .slice A2 l2.length c2), (6, .slice A3 l3.length c3), (7, .pointer (some ⟨b1, 0, none⟩)), (8, .pointer (some ⟨b4, 0, none⟩)), (9, .pointer (some ⟨b7, 0, none⟩)), (10, .pointer (some ⟨b10, 0, none⟩)), (15, .slice (some ⟨bx, ox, none⟩) ((stX ca n1 d1 l1 l2 l3).length) cS1), (17, .slice AS2 ((stX cb n2 d2 l1 l2 l3).length) cS2), (19, .bool al), (157, .bool ((!(al == (decide ((stX ca n1 d1 l1 l2 l3) = (stX cb n2 d2 l1 l2 l3))))) || (cmpB .lss ((stX ca n1 d1 l1 l2 l3).length) (2))))] (fun hJ4 => ?elA4) (fun a hF => ?flA4)
                case elA4 =>
                  rcases tf (cmpB .eql (0) (0)) with hg4 | hg4
                  · refine vc_skip hF rfl rfl rfl rfl rfl (ne_want hg4) (by decide) (fun a hF => ?_)
                    refine vc_skip hF rfl rfl rfl rfl rfl (ne_want hg4) (by decide) (fun a hF => ?_)
                    refine vc_skip hF rfl rfl rfl rfl rfl (ne_want hg4) (by decide) (fun a hF => ?_)
                    refine vc_skip hF rfl rfl rfl rfl rfl (ne_want hg4) (by decide) (fun a hF => ?_)
                    refine vc_yg hF rfl rfl rfl rfl (some_bool hg3) (by decide) _ (y_pickF hg4 rfl rfl rfl) (fun a hF => ?_)
                    exact hJ4 _ ((hF.keep [167, 4, 5, 6, 7, 8, 9, 10, 15, 17, 19, 157] (F' := [(167, _), (4, _), (5, _), (6, _), (7, _), (8, _), (9, _), (10, _), (15, _), (17, _), (19, _), (157, _)]) rfl).bool (by rw [hg4]; rfl))
                  · refine vc_yg hF rfl rfl rfl rfl (some_bool hg4) (by decide) _ (y_move rfl rfl) (fun a hF => ?_)
                    refine vc_yg hF rfl rfl rfl rfl (some_bool hg4) (by decide) _ (y_ixSl rfl Tryz.underlying27 sz5_v14 rfl rfl 1 rfl (by omega) rfl) (fun a hF => ?_)
                    refine vc_yg hF rfl rfl rfl rfl (some_bool hg4) (by decide) _ (y_ldC (u := .int .u8 k1) rfl (Hq.sub hA44.q (List.cons_subset.2 ⟨(List.mem_cons_of_mem _ ((List.mem_cons_self ..))), List.nil_subset _⟩)) rfl hcx 1 (by rw [dc_length]; omega) rfl hx1 nr5_v14) (fun a hF => ?_)
                    refine vc_yg hF rfl rfl rfl rfl (some_bool hg4) (by decide) _ (y_cmp rfl rfl rfl rfl rfl) (fun a hF => ?_)
                    refine vc_yg hF rfl rfl rfl rfl (some_bool hg3) (by decide) _ (y_pickT hg4 rfl rfl rfl) (fun a hF => ?_)
                    exact hJ4 _ ((hF.keep [167, 4, 5, 6, 7, 8, 9, 10, 15, 17, 19, 157] (F' := [(167, _), (4, _), (5, _), (6, _), (7, _), (8, _), (9, _), (10, _), (15, _), (17, _), (19, _), (157, _)]) rfl).bool (by rw [hg4]; rfl))
                refine vc_y hF rfl rfl (by decide) _ (y_pickF hg3 rfl rfl rfl) (fun a hF => ?_)
                exact hJ3 _ ((hF.keep [168, 4, 5, 6, 7, 8, 9, 10, 15, 17, 19] (F' := [(168, _), (4, _), (5, _), (6, _), (7, _), (8, _), (9, _), (10, _), (15, _), (17, _), (19, _)]) rfl).bool (by rw [hg3]; rfl))
              · refine vc_skip hF rfl rfl rfl rfl rfl (ne_want hg3) (by decide) (fun a hF => ?_)
                refine vc_skip hF rfl rfl rfl rfl rfl (ne_want hg3) (by decide) (fun a hF => ?_)
                refine vc_skip hF rfl rfl rfl rfl rfl (ne_want hg3) (by decide) (fun a hF => ?_)
                refine vc_skip hF rfl rfl rfl rfl rfl (ne_want hg3) (by decide) (fun a hF => ?_)
                refine vc_skip hF rfl rfl rfl rfl rfl (ne_want hg3) (by decide) (fun a hF => ?_)
                refine vc_skipU hF rfl rfl rfl rfl rfl (by decide) (fun a hF => ?_)
                refine vc_skipU hF rfl rfl rfl rfl rfl (by decide) (fun a hF => ?_)
                refine vc_skipU hF rfl rfl rfl rfl rfl (by decide) (fun a hF => ?_)
                refine vc_skipU hF rfl rfl rfl rfl rfl (by decide) (fun a hF => ?_)
                refine vc_skip hF rfl rfl rfl rfl rfl (ne_want hg3) (by decide) (fun a hF => ?_)
                refine vc_y hF rfl rfl (by decide) _ (y_pickT hg3 rfl rfl rfl) (fun a hF => ?_)
                exact hJ3 _ ((hF.keep [168, 4, 5, 6, 7, 8, 9, 10, 15, 17, 19] (F' := [(168, _), (4, _), (5, _), (6, _), (7, _), (8, _), (9, _), (10, _), (15, _), (17, _), (19, _)]) rfl).bool (by rw [hg3]; rfl))
            refine vc_nil ?_
            refine hK26 _ _ ?_; clear  hK26 K26
            refine vc_falseB hF rfl (by rw [hse, beq_self_eq_true, lss_f (by omega), eql_f hk1]; simp) ?_
            apply wp_skip
            refine hK25 _ _ ?_; clear  hK25 K25
            apply wp_seq_k; intro K27 hK27
            refine wp_region_lit ?_
            refine vc_y hF rfl rfl (by decide) _ (y_ldRow (new := ca.cells) rfl hA44.q rfl 3 rfl rw52_v14 (by rw [ca_len h32]; exact Nat.le_refl _) (by rw [List.drop_zero]; exact List.take_of_length_le (by rw [ca_len h32]; exact Nat.le_refl _))) (fun a hF => ?_)
            refine vc_op rfl (fun K hK => hs_alloc hF rfl (by decide) rfl hA44 (zr52_v14) (fun b45 w46 a hb45 hF hA47 => hK _ _ ?_))
            clear hK K
            replace hA47 : Hp w0 ([row b45 52 [.string (⟨#[]⟩), .string (⟨#[]⟩), .int .i64 0, .int .u8 0, .int .u8 0, .int .u8 0, .int .u8 0, .int .u8 0, .int .u8 0, .int .u8 0, .int .u8 0, .int .u8 0, .int .u8 0, .int .u8 0, .int .u8 0, .int .u8 0, .int .u8 0, .int .u8 0, .int .u8 0, .int .u8 0, .int .u8 0, .int .u8 0, .int .u8 0, .int .u8 0, .int .u8 0, .int .u8 0, .int .u8 0, .int .u8 0, .int .u8 0, .int .u8 0, .int .u8 0, .int .u8 0, .int .u8 0, .int .u8 0, .int .u8 0, .slice none 0 0, .slice none 0 0, .slice none 0 0, .slice none 0 0]] :: ZS2 :: ZS1 :: [row b10 52 cb.cells] :: [row b7 52 ca.cells] :: [row b4 49 (.int .i64 n2 :: dc d2)] :: [row b1 49 (.int .i64 n1 :: dc d1)] :: []) w46 := hA47
            refine vc_op rfl (fun K hK => hs_storeAll (new := ca.cells) hF rfl rfl hA47 rfl rfl 0 rfl (by rw [ca_len h32]; rfl) (fun v hv => ca_one hv) sz52_v14 (fun w48 hA49 => hK _ _ ?_))
            clear hK K
            replace hA49 : Hp w0 ([row b45 52 ca.cells] :: ZS2 :: ZS1 :: [row b10 52 cb.cells] :: [row b7 52 ca.cells] :: [row b4 49 (.int .i64 n2 :: dc d2)] :: [row b1 49 (.int .i64 n1 :: dc d1)] :: []) w48 := hA49
            refine vc_nil ?_
            refine hK27 _ _ ?_; clear  hK27 K27
            apply wp_seq_k; intro K28 hK28
            refine wp_region_lit ?_
            refine vc_y hF rfl rfl (by decide) _ (y_field rfl Tryz.underlying52 rfl sz9_v14 (by decide) rfl (rfl : (⟨_, 0 + _, none⟩ : Addr) = ⟨_, 0, none⟩)) (fun a hF => ?_)
            refine vc_y hF rfl rfl (by decide) _ (y_ld (u := strV cb.name) rfl hA49.q rfl 3 rfl rfl nr9_v14) (fun a hF => ?_)
            refine vc_y hF rfl rfl (by decide) _ (y_field rfl Tryz.underlying52 rfl sz9_v14 (by decide) rfl (rfl : (⟨_, 0 + _, none⟩ : Addr) = ⟨_, 0, none⟩)) (fun a hF => ?_)
            refine vc_op rfl (fun K hK => hs_store1 hF rfl rfl hA49 rfl rfl 0 rfl (by have e := ca_len (c := ca) h32; omega) rfl sz9_v14 (fun w50 hA51 => hK _ _ ?_))
            clear hK K
            replace hA51 : Hp w0 ([row b45 52 (CA.cells ⟨cb.name, ca.typ, ca.cnt, ca.ch, ca.vals, ca.vA, ca.vC, ca.opn, ca.oA, ca.oC, ca.clo, ca.cA, ca.cC, ca.rea, ca.rA, ca.rC⟩)] :: ZS2 :: ZS1 :: [row b10 52 cb.cells] :: [row b7 52 ca.cells] :: [row b4 49 (.int .i64 n2 :: dc d2)] :: [row b1 49 (.int .i64 n1 :: dc d1)] :: []) w50 := hA51
            refine vc_nil ?_
            refine hK28 _ _ ?_; clear  hK28 K28
            apply wp_seq_k; intro K29 hK29
            refine wp_region_lit ?_
            refine vc_y hF rfl rfl (by decide) _ (y_field rfl Tryz.underlying52 rfl sz3_v14 (by decide) rfl (rfl : (⟨_, 0 + _, none⟩ : Addr) = ⟨_, 2, none⟩)) (fun a hF => ?_)
            refine vc_y hF rfl rfl (by decide) _ (y_ld (u := .int .i64 cb.cnt) rfl hA51.q rfl 3 rfl rfl nr3_v14) (fun a hF => ?_)
            refine vc_y hF rfl rfl (by decide) _ (y_add rfl rfl rfl rfl) (fun a hF => ?_)
            refine vc_y hF rfl rfl (by decide) _ (y_field rfl Tryz.underlying52 rfl sz3_v14 (by decide) rfl (rfl : (⟨_, 0 + _, none⟩ : Addr) = ⟨_, 2, none⟩)) (fun a hF => ?_)
            refine vc_op rfl (fun K hK => hs_store1 hF rfl rfl hA51 rfl rfl 0 rfl (by have e := ca_len (c := ⟨cb.name, ca.typ, ca.cnt, ca.ch, ca.vals, ca.vA, ca.vC, ca.opn, ca.oA, ca.oC, ca.clo, ca.cA, ca.cC, ca.rea, ca.rA, ca.rC⟩) h32; omega) rfl sz3_v14 (fun w52 hA53 => hK _ _ ?_))
            clear hK K
            replace hA53 : Hp w0 ([row b45 52 (CA.cells ⟨cb.name, ca.typ, IntKind.i64.wrap (cb.cnt + 1), ca.ch, ca.vals, ca.vA, ca.vC, ca.opn, ca.oA, ca.oC, ca.clo, ca.cA, ca.cC, ca.rea, ca.rA, ca.rC⟩)] :: ZS2 :: ZS1 :: [row b10 52 cb.cells] :: [row b7 52 ca.cells] :: [row b4 49 (.int .i64 n2 :: dc d2)] :: [row b1 49 (.int .i64 n1 :: dc d1)] :: []) w52 := hA53
            refine vc_nil ?_
            refine hK29 _ _ ?_; clear  hK29 K29
            apply wp_seq_k; intro K30 hK30
            refine wp_region_lit ?_
            refine vc_y hF rfl rfl (by decide) _ (y_field rfl Tryz.underlying49 rfl sz29_v14 (by decide) rfl (rfl : (⟨_, 0 + _, none⟩ : Addr) = ⟨_, 1, none⟩)) (fun a hF => ?_)
            refine vc_y hF rfl rfl (by decide) _ (y_ldRow (new := dc d2) rfl hA53.q rfl 5 rfl rw29_v14 (by rw [en_len hd2]; exact Nat.le_of_ble_eq_true rfl) (by show (dc d2).take 32 = _; exact List.take_of_length_le (by rw [dc_length, hd2]; exact Nat.le_refl _))) (fun a hF => ?_)
            refine vc_y hF rfl rfl (by decide) _ (y_field rfl Tryz.underlying52 rfl sz29_v14 (by decide) rfl (rfl : (⟨_, 0 + _, none⟩ : Addr) = ⟨_, 3, none⟩)) (fun a hF => ?_)
            refine vc_op rfl (fun K hK => hs_storeRow (new := dc d2) hF rfl rfl hA53 rfl rfl 0 rfl (by have e := ca_len (c := ⟨cb.name, ca.typ, IntKind.i64.wrap (cb.cnt + 1), ca.ch, ca.vals, ca.vA, ca.vC, ca.opn, ca.oA, ca.oC, ca.clo, ca.cA, ca.cC, ca.rea, ca.rA, ca.rC⟩) h32; rw [dc_length, hd2]; omega) (dc_one _) (by rw [dc_length, hd2]; exact sz29_v14) (fun w54 hA55 => hK _ _ ?_))
            clear hK K
            replace hA55 : Hp w0 ([row b45 52 (splice (CA.cells ⟨cb.name, ca.typ, IntKind.i64.wrap (cb.cnt + 1), ca.ch, ca.vals, ca.vA, ca.vC, ca.opn, ca.oA, ca.oC, ca.clo, ca.cA, ca.cC, ca.rea, ca.rA, ca.rC⟩) 3 (dc d2))] :: ZS2 :: ZS1 :: [row b10 52 cb.cells] :: [row b7 52 ca.cells] :: [row b4 49 (.int .i64 n2 :: dc d2)] :: [row b1 49 (.int .i64 n1 :: dc d1)] :: []) w54 := hA55
            rw [ca_chain h32 hd2] at hA55
            have hA56 : Hp w0 ([row b45 52 ((ca.swap cb d2).cells)] :: ZS2 :: ZS1 :: [row b10 52 cb.cells] :: [row b7 52 ca.cells] :: [row b4 49 (.int .i64 n2 :: dc d2)] :: [row b1 49 (.int .i64 n1 :: dc d1)] :: []) w54 := hA55
            refine vc_nil ?_
            refine hK30 _ _ ?_; clear  hK30 K30
            apply wp_seq_k; intro K31 hK31
            refine wp_region_lit ?_
            refine vc_y hF rfl rfl (by decide) _ (y_ldRow (new := (.int .i64 n1 :: dc d1)) rfl hA56.q rfl 6 rfl rw49_v14 (by rw [en_len hd1]; exact Nat.le_refl _) (by rw [List.drop_zero]; exact List.take_of_length_le (by rw [en_len hd1]; exact Nat.le_refl _))) (fun a hF => ?_)
            refine vc_y hF rfl rfl (by decide) _ (y_ldRow (new := (ca.swap cb d2).cells) rfl hA56.q rfl 0 rfl rw52_v14 (by rw [ca_len (c := ca.swap cb d2) hd2]; exact Nat.le_refl _) (by rw [List.drop_zero]; exact List.take_of_length_le (by rw [ca_len (c := ca.swap cb d2) hd2]; exact Nat.le_refl _))) (fun a hF => ?_)
            refine vc_y hF rfl rfl (by decide) _ (y_move rfl rfl) (fun a hF => ?_)
            refine vc_y hF rfl rfl (by decide) _ (y_move rfl rfl) (fun a hF => ?_)
            refine vc_y hF rfl rfl (by decide) _ (y_move rfl rfl) (fun a hF => ?_)
            refine vc_op rfl (fun K hK => ws_call hF rfl (by decide) cl24_v14 rfl rfl ?_)
            with_reducible refine (st_swap n1 d1 ca cb d2 A1 l1 c1 A2 l2 c2 A3 l3 c3 _ hT hd1 hC hd2 h1 h2 h3 (List.nil_subset _) hA56 ).mono ?_
            rintro e' w57 ⟨vS3, ZS3, rfl, hZS3, hA58⟩
            refine ⟨_, rfl, fun a hF => hK _ _ ?_⟩
            clear hK K
            replace hA58 : Hp w0 (ZS3 :: [row b45 52 ((ca.swap cb d2).cells)] :: ZS2 :: ZS1 :: [row b10 52 cb.cells] :: [row b7 52 ca.cells] :: [row b4 49 (.int .i64 n2 :: dc d2)] :: [row b1 49 (.int .i64 n1 :: dc d1)] :: []) w57 := hA58
            obtain ⟨_, AS3, cS3, rfl, hcS3, hRS3⟩ := hZS3.rd (w0 := w0) (R := [ZS3]) (List.mem_cons_self ..)
            obtain ⟨_, _, _, hle3, hlf3⟩ := hZS3.cap
            refine vc_y hF rfl rfl (by decide) _ (y_move rfl rfl) (fun a hF => ?_)
            refine vc_y hF rfl rfl (by decide) _ (y_extract (v := .slice AS3 ((stX ca n1 d1 l1 l2 l3).length) cS3) rfl rfl rfl) (fun a hF => ?_)
            refine vc_y hF rfl rfl (by decide) _ (y_extract (v := .int .i64 ((stE ca.typ (l1.map (heldV ca.bind)) l1.length l2.length l3.length : Nat) : Int)) rfl rfl rfl) (fun a hF => ?_)
            refine vc_y hF rfl rfl (by decide) _ (y_assign rfl rfl) (fun a hF => ?_)
            refine vc_y hF rfl rfl (by decide) _ (y_assign rfl rfl) (fun a hF => ?_)
            refine vc_nil ?_
            refine hK31 _ _ ?_; clear  hK31 K31
            apply wp_seq_k; intro K32 hK32
            refine wp_region_lit ?_
            refine vc_y hF rfl rfl (by decide) _ (y_move rfl rfl) (fun a hF => ?_)
            refine vc_y hF rfl rfl (by decide) _ (y_cmp rfl rfl rfl rfl (eql_t (by omega))) (fun a hF => ?_)
            refine vc_y hF rfl rfl (by decide) _ (y_move rfl rfl) (fun a hF => ?_)
            refine vc_yg hF rfl rfl rfl rfl (some_bool rfl) (by decide) _ (y_move rfl rfl) (fun a hF => ?_)
            refine vc_yg hF rfl rfl rfl rfl (some_bool rfl) (by decide) _ (y_move rfl rfl) (fun a hF => ?_)
            refine vc_opg hF rfl rfl rfl (some_bool rfl) (fun K hK => ws_call hF rfl (by decide) cl23_v14 rfl rfl ?_)
            with_reducible refine (ev_sameB (l1 := (stX ca n1 d1 l1 l2 l3)) (l2 := (stX ca n1 d1 l1 l2 l3)) _ (Rc.mono hRS1 (List.cons_subset.2 ⟨(List.mem_cons_of_mem _ (List.mem_cons_of_mem _ (List.mem_cons_of_mem _ ((List.mem_cons_self ..))))), List.nil_subset _⟩)) (Rc.mono hRS3 (List.cons_subset.2 ⟨((List.mem_cons_self ..)), List.nil_subset _⟩)) (by omega) hA58 ).mono ?_
            rintro e' w59 ⟨rfl, hA60⟩
            refine ⟨_, rfl, fun a hF => hK _ _ ?_⟩
            clear hK K
            replace hA60 : Hp w0 (ZS3 :: [row b45 52 ((ca.swap cb d2).cells)] :: ZS2 :: ZS1 :: [row b10 52 cb.cells] :: [row b7 52 ca.cells] :: [row b4 49 (.int .i64 n2 :: dc d2)] :: [row b1 49 (.int .i64 n1 :: dc d1)] :: []) w59 := hA60
            rw [decide_eq_true rfl] at hF
            refine vc_y hF rfl rfl (by decide) _ (y_pickT rfl rfl rfl rfl) (fun a hF => ?_)
            refine vc_y hF rfl rfl (by decide) _ (y_move rfl rfl) (fun a hF => ?_)
            refine vc_opg hF rfl rfl rfl (some_bool rfl) (fun K hK => ws_call hF rfl (by decide) cl15_v14 rfl rfl ?_)
            with_reducible refine (ev_known _ hT hA60 ).mono ?_
            rintro e' w61 ⟨rfl, hA62⟩
            refine ⟨_, rfl, fun a hF => hK _ _ ?_⟩
            clear hK K
            replace hA62 : Hp w0 (ZS3 :: [row b45 52 ((ca.swap cb d2).cells)] :: ZS2 :: ZS1 :: [row b10 52 cb.cells] :: [row b7 52 ca.cells] :: [row b4 49 (.int .i64 n2 :: dc d2)] :: [row b1 49 (.int .i64 n1 :: dc d1)] :: []) w61 := hA62
            refine vc_y hF rfl rfl (by decide) _ (y_pickT rfl rfl rfl rfl) (fun a hF => ?_)
            refine vc_y hF rfl rfl (by decide) _ (y_assign rfl rfl) (fun a hF => ?_)
            refine vc_nil ?_
            refine hK32 _ _ ?_; clear  hK32 K32
            apply wp_ret
            refine vc_ret1 hF Tryz.results7 rfl ?_
            have hA63 : Hp w0 ([]) w61 := Hp.sel [ZS3, [row b45 52 ((ca.swap cb d2).cells)], ZS2, ZS1, [row b10 52 cb.cells], [row b7 52 ca.cells], [row b4 49 (.int .i64 n2 :: dc d2)], [row b1 49 (.int .i64 n1 :: dc d1)]] [] [] [0, 1, 2, 3, 4, 5, 6, 7] hA62 rfl
            exact ⟨rfl, hA63.at0⟩
    · refine wp_region_lit ?_
      refine vc_y hF rfl rfl (by decide) _ (y_move rfl rfl) (fun a hF => ?_)
      refine vc_y hF rfl rfl (by decide) _ (y_cmp rfl rfl rfl rfl (neq_f (by omega))) (fun a hF => ?_)
      refine vc_y hF rfl rfl (by decide) _ (y_move rfl rfl) (fun a hF => ?_)
      refine vc_yg hF rfl rfl rfl rfl (some_bool rfl) (by decide) _ (y_move rfl rfl) (fun a hF => ?_)
      refine vc_yg hF rfl rfl rfl rfl (some_bool rfl) (by decide) _ (y_cmp rfl rfl rfl rfl (neq_t (by omega))) (fun a hF => ?_)
      refine vc_y hF rfl rfl (by decide) _ (y_pickF rfl rfl rfl rfl) (fun a hF => ?_)
      refine vc_nil ?_
      refine hK5 _ _ ?_; clear  hK5 K5
      refine vc_trueB hF rfl rfl ?_
      apply wp_seq_k; intro K33 hK33
      refine wp_region_lit ?_
      refine vc_y hF rfl rfl (by decide) _ (y_move rfl rfl) (fun a hF => ?_)
      refine vc_y hF rfl rfl (by decide) _ (y_cmp rfl rfl rfl rfl (eql_t (by omega))) (fun a hF => ?_)
      refine vc_y hF rfl rfl (by decide) _ (y_move rfl rfl) (fun a hF => ?_)
      refine vc_skip hF rfl rfl rfl rfl rfl (ne_want rfl) (by decide) (fun a hF => ?_)
      refine vc_skip hF rfl rfl rfl rfl rfl (ne_want rfl) (by decide) (fun a hF => ?_)
      refine vc_skip hF rfl rfl rfl rfl rfl (ne_want rfl) (by decide) (fun a hF => ?_)
      refine vc_y hF rfl rfl (by decide) _ (y_pickT rfl rfl rfl rfl) (fun a hF => ?_)
      refine vc_y hF rfl rfl (by decide) _ (y_move rfl rfl) (fun a hF => ?_)
      refine vc_yg hF rfl rfl rfl rfl (some_bool rfl) (by decide) _ (y_move rfl rfl) (fun a hF => ?_)
      refine vc_yg hF rfl rfl rfl rfl (some_bool rfl) (by decide) _ (y_cmp rfl rfl rfl rfl (eql_f (by omega))) (fun a hF => ?_)
      refine vc_yg hF rfl rfl rfl rfl (some_bool rfl) (by decide) _ (y_move rfl rfl) (fun a hF => ?_)
      refine vc_yg hF rfl rfl rfl rfl (some_bool rfl) (by decide) _ (y_move rfl rfl) (fun a hF => ?_)
      refine vc_yg hF rfl rfl rfl rfl (some_bool rfl) (by decide) _ (y_lenSl rfl Tryz.underlying27 rfl rfl) (fun a hF => ?_)
      refine vc_yg hF rfl rfl rfl rfl (some_bool rfl) (by decide) _ (y_cmp rfl rfl rfl rfl (eql_t (by rw [stX_no hE2]; rfl))) (fun a hF => ?_)
      refine vc_yg hF rfl rfl rfl rfl (some_bool rfl) (by decide) _ (y_pickF rfl rfl rfl rfl) (fun a hF => ?_)
      refine vc_y hF rfl rfl (by decide) _ (y_pickT rfl rfl rfl rfl) (fun a hF => ?_)
      refine vc_y hF rfl rfl (by decide) _ (y_move rfl rfl) (fun a hF => ?_)
      refine vc_opg hF rfl rfl rfl (some_bool rfl) (fun K hK => ws_call hF rfl (by decide) cl15_v14 rfl rfl ?_)
      with_reducible refine (ev_known _ hT hA16 ).mono ?_
      rintro e' w64 ⟨rfl, hA65⟩
      refine ⟨_, rfl, fun a hF => hK _ _ ?_⟩
      clear hK K
      replace hA65 : Hp w0 (ZS2 :: ZS1 :: [row b10 52 cb.cells] :: [row b7 52 ca.cells] :: [row b4 49 (.int .i64 n2 :: dc d2)] :: [row b1 49 (.int .i64 n1 :: dc d1)] :: []) w64 := hA65
      refine vc_y hF rfl rfl (by decide) _ (y_pickT rfl rfl rfl rfl) (fun a hF => ?_)
      refine vc_y hF rfl rfl (by decide) _ (y_assign rfl rfl) (fun a hF => ?_)
      refine vc_nil ?_
      refine hK33 _ _ ?_; clear  hK33 K33
      apply wp_ret
      simp only [Exit.then]
      refine vc_ret1 hF Tryz.results7 rfl ?_
      have hA66 : Hp w0 ([]) w64 := Hp.sel [ZS2, ZS1, [row b10 52 cb.cells], [row b7 52 ca.cells], [row b4 49 (.int .i64 n2 :: dc d2)], [row b1 49 (.int .i64 n1 :: dc d1)]] [] [] [0, 1, 2, 3, 4, 5] hA65 rfl
      exact ⟨rfl, hA66.at0⟩
  · by_cases hE2 : stE cb.typ (l1.map (heldV cb.bind)) l1.length l2.length l3.length = 0
    · refine wp_region_lit ?_
      refine vc_y hF rfl rfl (by decide) _ (y_move rfl rfl) (fun a hF => ?_)
      refine vc_y hF rfl rfl (by decide) _ (y_cmp rfl rfl rfl rfl (neq_t (by omega))) (fun a hF => ?_)
      refine vc_y hF rfl rfl (by decide) _ (y_move rfl rfl) (fun a hF => ?_)
      refine vc_skip hF rfl rfl rfl rfl rfl (ne_want rfl) (by decide) (fun a hF => ?_)
      refine vc_skip hF rfl rfl rfl rfl rfl (ne_want rfl) (by decide) (fun a hF => ?_)
      refine vc_y hF rfl rfl (by decide) _ (y_pickT rfl rfl rfl rfl) (fun a hF => ?_)
      refine vc_nil ?_
      refine hK5 _ _ ?_; clear  hK5 K5
      refine vc_trueB hF rfl rfl ?_
      apply wp_seq_k; intro K34 hK34
      refine wp_region_lit ?_
      refine vc_y hF rfl rfl (by decide) _ (y_move rfl rfl) (fun a hF => ?_)
      refine vc_y hF rfl rfl (by decide) _ (y_cmp rfl rfl rfl rfl (eql_f (by omega))) (fun a hF => ?_)
      refine vc_y hF rfl rfl (by decide) _ (y_move rfl rfl) (fun a hF => ?_)
      refine vc_yg hF rfl rfl rfl rfl (some_bool rfl) (by decide) _ (y_move rfl rfl) (fun a hF => ?_)
      refine vc_yg hF rfl rfl rfl rfl (some_bool rfl) (by decide) _ (y_lenSl rfl Tryz.underlying27 rfl rfl) (fun a hF => ?_)
      refine vc_yg hF rfl rfl rfl rfl (some_bool rfl) (by decide) _ (y_cmp rfl rfl rfl rfl (eql_t (by rw [stX_no hE1]; rfl))) (fun a hF => ?_)
      refine vc_y hF rfl rfl (by decide) _ (y_pickF rfl rfl rfl rfl) (fun a hF => ?_)
      refine vc_y hF rfl rfl (by decide) _ (y_move rfl rfl) (fun a hF => ?_)
      refine vc_yg hF rfl rfl rfl rfl (some_bool rfl) (by decide) _ (y_move rfl rfl) (fun a hF => ?_)
      refine vc_yg hF rfl rfl rfl rfl (some_bool rfl) (by decide) _ (y_cmp rfl rfl rfl rfl (eql_t (by omega))) (fun a hF => ?_)
      refine vc_yg hF rfl rfl rfl rfl (some_bool rfl) (by decide) _ (y_move rfl rfl) (fun a hF => ?_)
      refine vc_skip hF rfl rfl rfl rfl rfl (ne_want rfl) (by decide) (fun a hF => ?_)
      refine vc_skip hF rfl rfl rfl rfl rfl (ne_want rfl) (by decide) (fun a hF => ?_)
      refine vc_skip hF rfl rfl rfl rfl rfl (ne_want rfl) (by decide) (fun a hF => ?_)
      refine vc_yg hF rfl rfl rfl rfl (some_bool rfl) (by decide) _ (y_pickT rfl rfl rfl rfl) (fun a hF => ?_)
      refine vc_y hF rfl rfl (by decide) _ (y_pickT rfl rfl rfl rfl) (fun a hF => ?_)
      refine vc_y hF rfl rfl (by decide) _ (y_move rfl rfl) (fun a hF => ?_)
      refine vc_opg hF rfl rfl rfl (some_bool rfl) (fun K hK => ws_call hF rfl (by decide) cl15_v14 rfl rfl ?_)
      with_reducible refine (ev_known _ hT hA16 ).mono ?_
      rintro e' w67 ⟨rfl, hA68⟩
      refine ⟨_, rfl, fun a hF => hK _ _ ?_⟩
      clear hK K
      replace hA68 : Hp w0 (ZS2 :: ZS1 :: [row b10 52 cb.cells] :: [row b7 52 ca.cells] :: [row b4 49 (.int .i64 n2 :: dc d2)] :: [row b1 49 (.int .i64 n1 :: dc d1)] :: []) w67 := hA68
      refine vc_y hF rfl rfl (by decide) _ (y_pickT rfl rfl rfl rfl) (fun a hF => ?_)
      refine vc_y hF rfl rfl (by decide) _ (y_assign rfl rfl) (fun a hF => ?_)
      refine vc_nil ?_
      refine hK34 _ _ ?_; clear  hK34 K34
      apply wp_ret
      simp only [Exit.then]
      refine vc_ret1 hF Tryz.results7 rfl ?_
      have hA69 : Hp w0 ([]) w67 := Hp.sel [ZS2, ZS1, [row b10 52 cb.cells], [row b7 52 ca.cells], [row b4 49 (.int .i64 n2 :: dc d2)], [row b1 49 (.int .i64 n1 :: dc d1)]] [] [] [0, 1, 2, 3, 4, 5] hA68 rfl
      exact ⟨rfl, hA69.at0⟩
    · refine wp_region_lit ?_
      refine vc_y hF rfl rfl (by decide) _ (y_move rfl rfl) (fun a hF => ?_)
      refine vc_y hF rfl rfl (by decide) _ (y_cmp rfl rfl rfl rfl (neq_t (by omega))) (fun a hF => ?_)
      refine vc_y hF rfl rfl (by decide) _ (y_move rfl rfl) (fun a hF => ?_)
      refine vc_skip hF rfl rfl rfl rfl rfl (ne_want rfl) (by decide) (fun a hF => ?_)
      refine vc_skip hF rfl rfl rfl rfl rfl (ne_want rfl) (by decide) (fun a hF => ?_)
      refine vc_y hF rfl rfl (by decide) _ (y_pickT rfl rfl rfl rfl) (fun a hF => ?_)
      refine vc_nil ?_
      refine hK5 _ _ ?_; clear  hK5 K5
      refine vc_trueB hF rfl rfl ?_
      apply wp_seq_k; intro K35 hK35
      refine wp_region_lit ?_
      refine vc_y hF rfl rfl (by decide) _ (y_move rfl rfl) (fun a hF => ?_)
      refine vc_y hF rfl rfl (by decide) _ (y_cmp rfl rfl rfl rfl (eql_f (by omega))) (fun a hF => ?_)
      refine vc_y hF rfl rfl (by decide) _ (y_move rfl rfl) (fun a hF => ?_)
      refine vc_yg hF rfl rfl rfl rfl (some_bool rfl) (by decide) _ (y_move rfl rfl) (fun a hF => ?_)
      refine vc_yg hF rfl rfl rfl rfl (some_bool rfl) (by decide) _ (y_lenSl rfl Tryz.underlying27 rfl rfl) (fun a hF => ?_)
      refine vc_yg hF rfl rfl rfl rfl (some_bool rfl) (by decide) _ (y_cmp rfl rfl rfl rfl (eql_t (by rw [stX_no hE1]; rfl))) (fun a hF => ?_)
      refine vc_y hF rfl rfl (by decide) _ (y_pickF rfl rfl rfl rfl) (fun a hF => ?_)
      refine vc_y hF rfl rfl (by decide) _ (y_move rfl rfl) (fun a hF => ?_)
      refine vc_yg hF rfl rfl rfl rfl (some_bool rfl) (by decide) _ (y_move rfl rfl) (fun a hF => ?_)
      refine vc_yg hF rfl rfl rfl rfl (some_bool rfl) (by decide) _ (y_cmp rfl rfl rfl rfl (eql_f (by omega))) (fun a hF => ?_)
      refine vc_yg hF rfl rfl rfl rfl (some_bool rfl) (by decide) _ (y_move rfl rfl) (fun a hF => ?_)
      refine vc_yg hF rfl rfl rfl rfl (some_bool rfl) (by decide) _ (y_move rfl rfl) (fun a hF => ?_)
      refine vc_yg hF rfl rfl rfl rfl (some_bool rfl) (by decide) _ (y_lenSl rfl Tryz.underlying27 rfl rfl) (fun a hF => ?_)
      refine vc_yg hF rfl rfl rfl rfl (some_bool rfl) (by decide) _ (y_cmp rfl rfl rfl rfl (eql_t (by rw [stX_no hE2]; rfl))) (fun a hF => ?_)
      refine vc_yg hF rfl rfl rfl rfl (some_bool rfl) (by decide) _ (y_pickF rfl rfl rfl rfl) (fun a hF => ?_)
      refine vc_y hF rfl rfl (by decide) _ (y_pickT rfl rfl rfl rfl) (fun a hF => ?_)
      refine vc_y hF rfl rfl (by decide) _ (y_move rfl rfl) (fun a hF => ?_)
      refine vc_opg hF rfl rfl rfl (some_bool rfl) (fun K hK => ws_call hF rfl (by decide) cl15_v14 rfl rfl ?_)
      with_reducible refine (ev_known _ hT hA16 ).mono ?_
      rintro e' w70 ⟨rfl, hA71⟩
      refine ⟨_, rfl, fun a hF => hK _ _ ?_⟩
      clear hK K
      replace hA71 : Hp w0 (ZS2 :: ZS1 :: [row b10 52 cb.cells] :: [row b7 52 ca.cells] :: [row b4 49 (.int .i64 n2 :: dc d2)] :: [row b1 49 (.int .i64 n1 :: dc d1)] :: []) w70 := hA71
      refine vc_y hF rfl rfl (by decide) _ (y_pickT rfl rfl rfl rfl) (fun a hF => ?_)
      refine vc_y hF rfl rfl (by decide) _ (y_assign rfl rfl) (fun a hF => ?_)
      refine vc_nil ?_
      refine hK35 _ _ ?_; clear  hK35 K35
      apply wp_ret
      simp only [Exit.then]
      refine vc_ret1 hF Tryz.results7 rfl ?_
      have hA72 : Hp w0 ([]) w70 := Hp.sel [ZS2, ZS1, [row b10 52 cb.cells], [row b7 52 ca.cells], [row b4 49 (.int .i64 n2 :: dc d2)], [row b1 49 (.int .i64 n1 :: dc d1)]] [] [] [0, 1, 2, 3, 4, 5] hA71 rfl
      exact ⟨rfl, hA72.at0⟩
end Go.Proofs.YtepbmdlgdaedpaaGreatDoor
