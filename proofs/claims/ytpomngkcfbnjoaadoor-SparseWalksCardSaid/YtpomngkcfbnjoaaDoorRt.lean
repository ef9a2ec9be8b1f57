/- Pointers held against nil; an index of an array of pointers; a row read by its place in a segment. Plain lemmas over the model; no program. -/
import Derived.Test.YtpomngkcfbnjoaaDoorRx
namespace Go.Dk
open Go Go.RowKit
section
variable {P : Program} {w w0 : World} {n : Nat} {F : List (Nat × Value)} {o : Oper} {t t' e : TypeId} {x y : Operand} {v : Value} {R S : List Seg}
theorem y_neNil {t' : TypeId} {ad : Addr} (ho : o.op = .binOp .neq t x y t') (hu : P.underlying t = some (.pointer (P.pointee t))) (hx : ev F x = some (.pointer (some ad))) (hy : ev F y = some (.pointer none)) : Yd P n F o w (.bool true) := fun a hF => by
  unfold execOp
  simp only [ho, hF.ev hx, hF.ev hy, Sem.run_bind]
  have h1 : (eqGuard .neq t x y (.pointer (some ad)) (.pointer none)).run P w = .ok () w := rfl
  rw [h1]
  simp only [Result.andThen_ok]
  rw [run_neq_pointer_nil w t (some ad) hu]
  rfl
theorem y_neNilT {t' : TypeId} (ho : o.op = .binOp .neq t x y t') (hu : P.underlying t = some (.pointer (P.pointee t))) (hx : ev F x = some (.pointer none)) (hy : ev F y = some (.pointer none)) : Yd P n F o w (.bool false) := fun a hF => by
  unfold execOp
  simp only [ho, hF.ev hx, hF.ev hy, Sem.run_bind]
  have h1 : (eqGuard .neq t x y (.pointer none) (.pointer none)).run P w = .ok () w := rfl
  rw [h1]
  simp only [Result.andThen_ok]
  rw [run_neq_pointer_nil w t none hu]
  rfl
theorem y_indexP {m : Nat} {kd : IntKind} {p : Int} {cs : List Value} {te : TypeId} (ho : o.op = .index t x y) (hu : P.underlying t = some (.array m e)) (he : P.underlying e = some (.pointer te)) (hs : (P.info? e).map (·.size) = some 1) (hx : ev F x = some (.agg cs.toArray)) (hy : ev F y = some (.int kd p)) (j : Nat) (hp : p = j) (hj : j < m) (hv : cs[j]? = some v) : Yd P n F o w v := fun a hF => by
  subst hp
  have h1 : (0 : Int) ≤ (j : Int) ∧ (j : Int) < (m : Int) := by omega
  have hpart : (part e cs.toArray (j * 1)).run P w = .ok v w := by simp [part, isAgg, run_underlying he, hv]
  unfold execOp
  simp only [ho, hF.ev hx, hF.ev hy, Instr.index, asIntOf, Sem.run_bind, Sem.run_pure, Result.andThen_ok, run_underlying hu w, h1, and_self, if_true, run_sizeOf hs, Int.toNat_natCast, hpart]
theorem Rw.ofMem {g : Nat} {t : TypeId} {cs : List Value} {Y : Seg} (hY : Y ∈ R) (hr : row g t cs ∈ Y) : Rw w0 R g cs := fun x hx =>
  have h := hx.mem hY hr
  ⟨lt_of_row h, fun j hj => by rw [cell_of_row x g (0 + j) _ t (0, 0) h, List.getElem?_toArray, Nat.zero_add]⟩
end
end Go.Dk
