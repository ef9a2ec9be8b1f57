/- An array's element by its number; a struct of a number and an array of bytes compared. Plain lemmas over the model; no program. -/
import Derived.Test.YtepbmdlgdaedpaaGreatDoorHs
import Derived.Laws.StructEq
import Derived.Stop.BytesEq
namespace Go.Dk
open Go Go.RowKit
section
variable {P : Program} {w : World} {n : Nat} {F : List (Nat × Value)} {o : Oper} {t t' e ti : TypeId} {x y : Operand} {v : Value}
theorem cellmap (X : List UInt8) : (X.map Extern.Stop.cell).toArray = (dc X).toArray := rfl
theorem run_eqEnt {f1 f2 : Field} {c c' : Int} {X X' : List UInt8} (hS : P.underlying t = some (.struct (P.fieldsOf t))) (hp : P.stoodInHeld t = false) (hf : (P.fieldsOf t).toList = [f1, f2]) (n1 : f1.name ≠ "_") (n2 : f2.name ≠ "_") (o1 : f1.offset = 0) (o2 : f2.offset = 1)
    (hi : P.underlying f1.type = some (.int .i64)) (hu : P.underlying f2.type = some (.array 32 e)) (he : P.underlying e = some (.int .u8)) (hs : (P.info? e).map (·.size) = some 1) (hs2 : (P.info? f2.type).map (·.size) = some 32) (hX : X.length = 32) (hX' : X'.length = 32) :
    (Op.equalIn 10000 t (.agg (.int .i64 c :: dc X).toArray) (.agg (.int .i64 c' :: dc X').toArray)).run P w = .ok (decide (c = c' ∧ X = X')) w := by
  rw [show (10000 : Nat) = 9999 + 1 from rfl, run_equalIn_agg w 9999 t _ _ hS hp, hf]
  have p1 : ∀ (z : Int) (Y : List UInt8), (part f1.type (.int .i64 z :: dc Y).toArray f1.offset).run P w = .ok (.int .i64 z) w := fun z Y => by
    rw [o1]; simp [part, isAgg, run_underlying hi]
  have p2 : ∀ (z : Int) (Y : List UInt8), Y.length = 32 → (part f2.type (.int .i64 z :: dc Y).toArray f2.offset).run P w = .ok (.agg (dc Y).toArray) w := fun z Y hY => by
    have h1 : ((Value.int .i64 z :: dc Y).toArray.extract 1 (1 + 32)) = (dc Y).toArray := by
      apply Array.ext'
      rw [Array.toList_extract]
      show ((Value.int .i64 z :: dc Y).take (32 + 1)).drop 1 = dc Y
      rw [List.take_succ_cons, List.drop_one, List.tail_cons, List.take_of_length_le (by rw [dc_length]; omega)]
    rw [o2]
    simp only [part, isAgg, Sem.run_bind, run_underlying hu w, Result.andThen_ok, Sem.run_pure, if_true, run_sizeOf hs2, h1]
  have e2 : (Op.equalIn 9999 f2.type (.agg (dc X).toArray) (.agg (dc X').toArray)).run P w = .ok (X == X') w := by
    have := Go.run_equalIn_bytes (P := P) w 9997 f2.type e 32 hu he (fun w => run_sizeOf hs) X X' hX hX'
    rwa [cellmap, cellmap] at this
  have e1 : (Op.equalIn 9999 f1.type (.int .i64 c) (.int .i64 c')).run P w = .ok (c == c') w := run_equalIn_int w 9998 f1.type .i64 .i64 c c' hi
  have q1 := fun z => p2 z X hX
  have q2 := fun z => p2 z X' hX'
  by_cases h1 : c = c'
  · subst h1
    by_cases h2 : X = X'
    · subst h2; simp [Op.eqFields, n1, n2, p1, q1, e1, e2]
    · simp [Op.eqFields, n1, n2, p1, q1, q2, e1, e2, h2]
  · simp [Op.eqFields, n1, n2, p1, q1, q2, e1, e2, h1]
theorem y_eqEnt {f1 f2 : Field} {c c' : Int} {X X' : List UInt8} {b : Bool} (ho : o.op = .binOp .eql t x y t') (hm : P.eqGuardType P.depth t = false) (hS : P.underlying t = some (.struct (P.fieldsOf t))) (hp : P.stoodInHeld t = false) (hf : (P.fieldsOf t).toList = [f1, f2]) (n1 : f1.name ≠ "_") (n2 : f2.name ≠ "_") (o1 : f1.offset = 0) (o2 : f2.offset = 1)
    (hi : P.underlying f1.type = some (.int .i64)) (hu : P.underlying f2.type = some (.array 32 e)) (he : P.underlying e = some (.int .u8)) (hs : (P.info? e).map (·.size) = some 1) (hs2 : (P.info? f2.type).map (·.size) = some 32) (hX : X.length = 32) (hX' : X'.length = 32)
    (hx : ev F x = some (.agg (.int .i64 c :: dc X).toArray)) (hy : ev F y = some (.agg (.int .i64 c' :: dc X').toArray)) (hb : decide (c = c' ∧ X = X') = b) : Yd P n F o w (.bool b) := fun a hF => by
  subst hb
  unfold execOp
  simp only [ho, hF.ev hx, hF.ev hy, Sem.run_bind, run_eqGuard_agg w .eql t x y _ _ hm, Result.andThen_ok]
  rw [run_eql_struct, run_eqEnt hS hp hf n1 n2 o1 o2 hi hu he hs hs2 hX hX']
  rfl
end
/-! ### Buffers -/
section
variable {e : TypeId} {X : Seg} {v : Value} {A : Option Addr} {z m n i c k : Nat} {W B Z V : List Value}
theorem Buf.cut (h : Buf e z X (.slice A m c) m W) (hn : n ≤ m) : Buf e z X (.slice A n c) n (W.take (n * z)) := by
  have hW := h.1
  obtain ⟨d, rfl⟩ : ∃ d, m = n + d := ⟨m - n, by omega⟩
  rw [Nat.add_mul] at hW
  refine ⟨by rw [List.length_take, hW]; omega, ?_⟩
  rcases h.2 with ⟨h1, h2, h3⟩ | ⟨g, c', B, Z, h1, h2, h3, h4⟩
  · injection h1 with e1 e2 e3
    subst e1 e3
    exact .inl ⟨by rw [show n = 0 by omega], by omega, h3⟩
  · injection h1 with e1 e2 e3
    subst e1 e3
    obtain ⟨f, rfl⟩ : ∃ f, c = n + d + f := ⟨c - (n + d), by omega⟩
    refine .inr ⟨g, _, B, W.drop (n * z) ++ Z, rfl, by omega, ?_, ?_⟩
    · rw [show n + d + f - (n + d) = f by omega] at h3
      rw [List.length_append, List.length_drop, hW, h3, show n + d + f - n = d + f by omega, Nat.add_mul]
      omega
    · rw [h4]
      simp only [List.append_assoc, List.append_cancel_left_eq, List.cons.injEq, and_true]
      congr 2
      rw [← List.append_assoc (W.take _), List.take_append_drop]
theorem splice_in (h : k + V.length ≤ W.length) : splice (B ++ W ++ Z) (B.length + k) V = B ++ splice W k V ++ Z := by
  unfold splice
  have e1 : B.take (B.length + k) = B := List.take_of_length_le (by omega)
  rw [List.append_assoc B W Z, List.take_append, e1, Nat.add_sub_cancel_left, List.take_append_of_le_length (by omega), Nat.add_assoc, ← List.drop_drop, List.drop_left, List.drop_append_of_le_length h]
  simp [List.append_assoc]
theorem Buf.setRow (h : Buf e z X v m W) (hi : i < m) (hV : V.length = z) : ∃ g B Z c, v = .slice (some ⟨g, B.length, none⟩) m c ∧ X = [row g e (B ++ W ++ Z)] ∧ W.length = m * z ∧ i * z + z ≤ m * z ∧ Buf e z [row g e (splice (B ++ W ++ Z) (B.length + i * z) V)] v m (splice W (i * z) V) := by
  have hW := h.1
  have hle : i * z + z ≤ m * z := by have := Nat.mul_le_mul_right z (show i + 1 ≤ m by omega); rwa [Nat.add_mul, Nat.one_mul] at this
  rcases h.2 with ⟨_, h2, _⟩ | ⟨g, c, B, Z, h1, h2, h3, h4⟩
  · omega
  · refine ⟨g, B, Z, c, h1, h4, hW, hle, ?_, .inr ⟨g, c, B, Z, h1, h2, h3, ?_⟩⟩
    · unfold splice
      rw [List.length_append, List.length_append, List.length_take, List.length_drop, hV]
      omega
    · rw [splice_in (by rw [hV, hW]; exact hle)]
end
section
variable {P : Program} {w w0 : World} {n : Nat} {F : List (Nat × Value)} {a : Act} {L : List Row} {R : List Seg}
end
/-! ### Texts that were made -/
/-- a text: its value, its bytes, its memory -/
structure TxX where
  v : Value
  l : List UInt8
  X : Seg
/-- it can be read -/
def TxX.Ok (w0 : World) (t : TxX) : Prop := ∃ A c, t.v = .slice A t.l.length c ∧ Rd w0 [t.X] A t.l
end Go.Dk
