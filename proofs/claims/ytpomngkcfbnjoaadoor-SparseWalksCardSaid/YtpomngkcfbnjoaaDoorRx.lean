/- Functions as values that hold what they caught; a slice held against nil. Plain lemmas over the model; no program. -/
import Derived.Test.YtpomngkcfbnjoaaDoorBook0
namespace Go.Dk
open Go Go.RowKit
section
variable {P : Program} {Q : Exit → Act → World → Prop} {w : World} {n : Nat} {F : List (Nat × Value)} {a : Act} {o : Oper} {d : Nat} {K : Act → World → Prop} {x y : Operand} {t t' e : TypeId} {v : Value}
theorem y_makeFunc {f : FuncId} (ho : o.op = .makeFunc (.func f) #[] #[x]) (hx : ev F x = some v) : Yd P n F o w (.func (.func f) #[] #[v]) := fun a hF => by
  unfold execOp
  simp [ho, Instr.makeFunc, hF.ev hx]
/-- a function that is a value, and what it caught, is called -/
theorem ws_callC {f : FuncId} {cv : Value} (hF : Fr n F a) (hd : o.dst = some d) (hlt : d < n) (hc : CallsTo P f) {args : Array Operand} {ts : Array TypeId} (ho : o.op = .call { callee := .value x, args := args, argTypes := ts }) (hx : ev F x = some (.func (.func f) #[] #[cv]))
    {vals : List Value} (hv : evs F args.toList = some vals) (h : Calls P f (vals ++ [cv]).toArray w (fun e w' => ∃ v, e = .returned v ∧ ∀ a', Fr n ((d, v) :: F) a' → K a' w')) : o.wp P a w K Q := by
  obtain ⟨fn, hfn, hnm, hbd⟩ := hc
  have hargs : args.map a.eval = vals.toArray := by
    have h1 : ∀ (xs : List Operand) (vs : List Value), xs.map (Dk.ev F) = vs.map some → xs.map a.eval = vs := by
      intro xs
      induction xs with
      | nil => intro vs h; cases vs <;> simp_all
      | cons x xs ih =>
        intro vs h
        cases vs with
        | nil => simp at h
        | cons u us =>
          simp only [List.map_cons, List.cons.injEq] at h
          simp only [List.map_cons, hF.ev h.1, ih us h.2]
    have h2 := h1 args.toList vals (evs_spec _ _ hv)
    apply Array.ext'
    rw [Array.toList_map, h2]
  have hcat : (#[] : Array Value) ++ vals.toArray ++ #[cv] = (vals ++ [cv]).toArray := by simp
  have hrun : (execOp a.eval o).run P w = .ok (.enter f (vals ++ [cv]).toArray) w := by
    unfold execOp
    simp only [ho, resolve, hargs, hF.ev hx, Deferred.ofValue, invoke, callFunc, Sem.run_bind, Sem.run_pure, Result.andThen_ok, run_program, hfn, hnm, hbd, Bool.false_eq_true, if_false, hcat]
  unfold Oper.wp
  rw [hrun, Oper.upon_enter]
  refine h.mono ?_
  rintro e w' ⟨v, rfl, hK⟩
  rw [hd]
  exact hK _ (hF.put hlt)
end
section
variable {P : Program} {w w0 : World} {n : Nat} {F : List (Nat × Value)} {a : Act} {L : List Row} {R S : List Seg}
theorem results_ct {fn : Func} {t u : Tmp} {ty : TypeId} (h : fn.results = #[.cell u ty, .tmp t]) {tmps : Array Value} (hA : At w0 L w) {g : Nat} (hx : tmps.getD u undef = .pointer (some ⟨g, 0, none⟩))
    (k : Nat) {te : TypeId} {cs : List Value} (hk : L[k]? = some (g, te, cs)) (hr : isRow P ty cs.length = true) : (results fn tmps).run P w = .ok (.tuple #[.agg cs.toArray, tmps.getD t undef]) w := by
  obtain ⟨d, hu, hd, hi⟩ := isRow_spec hr
  have h1 := run_loadVar_mid (P := P) w g 0 ty cs d (by simpa using hA.range hk 0 cs.length) hu hd hi
  have hx' : tmps[u]?.getD undef = .pointer (some ⟨g, 0, none⟩) := by simpa using hx
  simp [results, h, hx', h1, asAddr]
theorem vc_retCT {fn : Func} {RR : Ending → World → Prop} {t u : Tmp} {ty te : TypeId} {g : Nat} {cs : List Value} {T : Seg} {v : Value} (hF : Fr n F a) (hr : fn.results = #[.cell u ty, .tmp t]) (hA : Hq w0 R w) (hl2 : look F u = some (.pointer (some ⟨g, 0, none⟩))) (hl : look F t = some v)
    (k : Nat) (hk : nth R k = some (row g te cs :: T)) (hrow : isRow P ty cs.length = true) (h : RR (.returned (.tuple #[.agg cs.toArray, v])) w) : bodyPost P fn RR .ret a w :=
  bodyPost_ret (results_ct hr (At.start1 (hA.rowAt hk)) (hF.at hl2) 0 rfl hrow) hF.defers (by rw [hF.at hl]; exact h)
/-- a row that can be read as long as some segments lie there -/
def Rw (w0 : World) (R : List Seg) (g : Nat) (W : List Value) : Prop := ∀ x, Hq w0 R x → g < x.heap.size ∧ ∀ i, i < W.length → x.cell? ⟨g, 0 + i, none⟩ = W[i]?
theorem Rw.mono {g : Nat} {W : List Value} (h : Rw w0 R g W) (hs : R ⊆ S) : Rw w0 S g W := fun x hx => h x (hx.sub hs)
theorem Rw.ofRow {i g : Nat} {t : TypeId} {cs : List Value} {T : Seg} (hi : nth R i = some (row g t cs :: T)) : Rw w0 R g cs := fun x hx =>
  ⟨lt_of_row (hx.rowAt hi), fun j hj => by rw [cell_of_row x g (0 + j) _ t (0, 0) (hx.rowAt hi), List.getElem?_toArray, Nat.zero_add]⟩
end
end Go.Dk
