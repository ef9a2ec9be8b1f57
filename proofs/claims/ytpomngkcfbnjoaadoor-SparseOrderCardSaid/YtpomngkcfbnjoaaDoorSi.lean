/- A struct of an array of bytes and a struct of a number and an array of bytes compared. Plain lemmas over the model; no program. -/
import Derived.Test.YtpomngkcfbnjoaaDoorSp
namespace Go.Dk
open Go Go.RowKit
section
variable {P : Program} {w : World} {n : Nat} {F : List (Nat × Value)} {o : Oper} {t t' e te : TypeId} {x y : Operand} {v : Value}
theorem run_eqEntN (k : Nat) {f1 f2 : Field} {c c' : Int} {X X' : List UInt8} (hS : P.underlying t = some (.struct (P.fieldsOf t))) (hp : P.stoodInHeld t = false) (hf : (P.fieldsOf t).toList = [f1, f2]) (n1 : f1.name ≠ "_") (n2 : f2.name ≠ "_") (o1 : f1.offset = 0) (o2 : f2.offset = 1)
    (hi : P.underlying f1.type = some (.int .i64)) (hu : P.underlying f2.type = some (.array 32 e)) (he : P.underlying e = some (.int .u8)) (hs : (P.info? e).map (·.size) = some 1) (hs2 : (P.info? f2.type).map (·.size) = some 32) (hX : X.length = 32) (hX' : X'.length = 32) :
    (Op.equalIn (k + 4) t (.agg (.int .i64 c :: dc X).toArray) (.agg (.int .i64 c' :: dc X').toArray)).run P w = .ok (decide (c = c' ∧ X = X')) w := by
  rw [show k + 4 = (k + 3) + 1 from rfl, run_equalIn_agg w (k + 3) t _ _ hS hp, hf]
  have p1 : ∀ (z : Int) (Y : List UInt8), (part f1.type (.int .i64 z :: dc Y).toArray f1.offset).run P w = .ok (.int .i64 z) w := fun z Y => by
    rw [o1]; simp [part, isAgg, run_underlying hi]
  have p2 : ∀ (z : Int) (Y : List UInt8), Y.length = 32 → (part f2.type (.int .i64 z :: dc Y).toArray f2.offset).run P w = .ok (.agg (dc Y).toArray) w := fun z Y hY => by
    have h1 : ((Value.int .i64 z :: dc Y).toArray.extract 1 (1 + 32)) = (dc Y).toArray := by
      apply Array.ext'
      rw [Array.toList_extract]
      show ((Value.int .i64 z :: dc Y).take (32 + 1)).drop 1 = dc Y
      rw [List.take_succ_cons, List.drop_one, List.tail_cons, List.take_of_length_le (by rw [dc_length]; omega)]
    rw [o2]
    simp only [part, isAgg, Sem.run_bind, run_underlying hu w, Result.andThen_ok, Sem.run_pure, if_true, run_sizeOf hs2, h1]
  have e2 : (Op.equalIn (k + 3) f2.type (.agg (dc X).toArray) (.agg (dc X').toArray)).run P w = .ok (X == X') w := by
    have := Go.run_equalIn_bytes (P := P) w (k + 1) f2.type e 32 hu he (fun w => run_sizeOf hs) X X' hX hX'
    rwa [cellmap, cellmap] at this
  have e1 : (Op.equalIn (k + 3) f1.type (.int .i64 c) (.int .i64 c')).run P w = .ok (c == c') w := run_equalIn_int w (k + 2) f1.type .i64 .i64 c c' hi
  have q1 := fun z => p2 z X hX
  have q2 := fun z => p2 z X' hX'
  by_cases h1 : c = c'
  · subst h1
    by_cases h2 : X = X'
    · subst h2; simp [Op.eqFields, n1, n2, p1, q1, e1, e2]
    · simp [Op.eqFields, n1, n2, p1, q1, q2, e1, e2, h2]
  · simp [Op.eqFields, n1, n2, p1, q1, q2, e1, e2, h1]
/-- an item: a key, a count, a chain -/
theorem run_eqItm {f1 f2 g1 g2 : Field} {c c' : Int} {K K' X X' : List UInt8} (hS : P.underlying t = some (.struct (P.fieldsOf t))) (hp : P.stoodInHeld t = false) (hf : (P.fieldsOf t).toList = [f1, f2]) (n1 : f1.name ≠ "_") (n2 : f2.name ≠ "_") (o1 : f1.offset = 0) (o2 : f2.offset = 32)
    (hk : P.underlying f1.type = some (.array 32 e)) (he : P.underlying e = some (.int .u8)) (hs : (P.info? e).map (·.size) = some 1) (hk2 : (P.info? f1.type).map (·.size) = some 32) (hz : (P.info? f2.type).map (·.size) = some 33)
    (hS2 : P.underlying f2.type = some (.struct (P.fieldsOf f2.type))) (hp2 : P.stoodInHeld f2.type = false) (hg : (P.fieldsOf f2.type).toList = [g1, g2]) (m1 : g1.name ≠ "_") (m2 : g2.name ≠ "_") (u1 : g1.offset = 0) (u2 : g2.offset = 1)
    (hi : P.underlying g1.type = some (.int .i64)) (hu : P.underlying g2.type = some (.array 32 e)) (hs2 : (P.info? g2.type).map (·.size) = some 32) (hK : K.length = 32) (hK' : K'.length = 32) (hX : X.length = 32) (hX' : X'.length = 32) :
    (Op.equalIn 10000 t (.agg (dc K ++ (.int .i64 c :: dc X)).toArray) (.agg (dc K' ++ (.int .i64 c' :: dc X')).toArray)).run P w = .ok (decide (K = K' ∧ (c = c' ∧ X = X'))) w := by
  rw [show (10000 : Nat) = 9999 + 1 from rfl, run_equalIn_agg w 9999 t _ _ hS hp, hf]
  have p1 : ∀ (z : Int) (L Y : List UInt8), L.length = 32 → (part f1.type (dc L ++ (.int .i64 z :: dc Y)).toArray f1.offset).run P w = .ok (.agg (dc L).toArray) w := fun z L Y hL => by
    have h1 : ((dc L ++ (Value.int .i64 z :: dc Y)).toArray.extract 0 (0 + 32)) = (dc L).toArray := by
      apply Array.ext'
      rw [Array.toList_extract]
      show ((dc L ++ (Value.int .i64 z :: dc Y)).take 32).drop 0 = dc L
      rw [List.drop_zero, List.take_left' (by rw [dc_length, hL])]
    rw [o1]
    simp only [part, isAgg, Sem.run_bind, run_underlying hk w, Result.andThen_ok, Sem.run_pure, if_true, run_sizeOf hk2, h1]
  have p2 : ∀ (z : Int) (L Y : List UInt8), L.length = 32 → Y.length = 32 → (part f2.type (dc L ++ (.int .i64 z :: dc Y)).toArray f2.offset).run P w = .ok (.agg (Value.int .i64 z :: dc Y).toArray) w := fun z L Y hL hY => by
    have h1 : ((dc L ++ (Value.int .i64 z :: dc Y)).toArray.extract 32 (32 + 33)) = (Value.int .i64 z :: dc Y).toArray := by
      apply Array.ext'
      rw [Array.toList_extract]
      show ((dc L ++ (Value.int .i64 z :: dc Y)).drop 32).take 33 = _
      rw [List.drop_left' (by rw [dc_length, hL]), List.take_of_length_le (by rw [List.length_cons, dc_length]; omega)]
    rw [o2]
    simp only [part, isAgg, Sem.run_bind, run_underlying hS2 w, Result.andThen_ok, Sem.run_pure, if_true, run_sizeOf hz, h1]
  have e1 : (Op.equalIn 9999 f1.type (.agg (dc K).toArray) (.agg (dc K').toArray)).run P w = .ok (K == K') w := by
    have := Go.run_equalIn_bytes (P := P) w 9997 f1.type e 32 hk he (fun w => run_sizeOf hs) K K' hK hK'
    rwa [cellmap, cellmap] at this
  have e2 : (Op.equalIn 9999 f2.type (.agg (Value.int .i64 c :: dc X).toArray) (.agg (Value.int .i64 c' :: dc X').toArray)).run P w = .ok (decide (c = c' ∧ X = X')) w := run_eqEntN 9995 hS2 hp2 hg m1 m2 u1 u2 hi hu he hs hs2 hX hX'
  have q1 := fun z Y => p1 z K Y hK
  have q2 := fun z Y => p1 z K' Y hK'
  have r1 := fun z => p2 z K X hK hX
  have r2 := fun z => p2 z K' X' hK' hX'
  by_cases h1 : K = K'
  · subst h1
    by_cases h2 : c = c' ∧ X = X'
    · obtain ⟨rfl, rfl⟩ := h2
      simp [Op.eqFields, n1, n2, q1, r1, e1, e2]
    · simp [Op.eqFields, n1, n2, q1, r1, r2, e1, e2, h2]
  · simp [Op.eqFields, n1, n2, q1, q2, r1, r2, e1, e2, h1]
theorem y_neItm {f1 f2 g1 g2 : Field} {c c' : Int} {K K' X X' : List UInt8} {b : Bool} (ho : o.op = .binOp .neq t x y t') (hm : P.eqGuardType P.depth t = false) (hS : P.underlying t = some (.struct (P.fieldsOf t))) (hp : P.stoodInHeld t = false) (hf : (P.fieldsOf t).toList = [f1, f2]) (n1 : f1.name ≠ "_") (n2 : f2.name ≠ "_") (o1 : f1.offset = 0) (o2 : f2.offset = 32)
    (hk : P.underlying f1.type = some (.array 32 e)) (he : P.underlying e = some (.int .u8)) (hs : (P.info? e).map (·.size) = some 1) (hk2 : (P.info? f1.type).map (·.size) = some 32) (hz : (P.info? f2.type).map (·.size) = some 33)
    (hS2 : P.underlying f2.type = some (.struct (P.fieldsOf f2.type))) (hp2 : P.stoodInHeld f2.type = false) (hg : (P.fieldsOf f2.type).toList = [g1, g2]) (m1 : g1.name ≠ "_") (m2 : g2.name ≠ "_") (u1 : g1.offset = 0) (u2 : g2.offset = 1)
    (hi : P.underlying g1.type = some (.int .i64)) (hu : P.underlying g2.type = some (.array 32 e)) (hs2 : (P.info? g2.type).map (·.size) = some 32) (hK : K.length = 32) (hK' : K'.length = 32) (hX : X.length = 32) (hX' : X'.length = 32)
    (hx : ev F x = some (.agg (dc K ++ (.int .i64 c :: dc X)).toArray)) (hy : ev F y = some (.agg (dc K' ++ (.int .i64 c' :: dc X')).toArray)) (hb : (!decide (K = K' ∧ (c = c' ∧ X = X'))) = b) : Yd P n F o w (.bool b) := fun a hF => by
  subst hb
  unfold execOp
  simp only [ho, hF.ev hx, hF.ev hy, Sem.run_bind, run_eqGuard_agg w .neq t x y _ _ hm, Result.andThen_ok]
  rw [run_neq_struct, run_eqItm hS hp hf n1 n2 o1 o2 hk he hs hk2 hz hS2 hp2 hg m1 m2 u1 u2 hi hu hs2 hK hK' hX hX']
  rfl
end
end Go.Dk
