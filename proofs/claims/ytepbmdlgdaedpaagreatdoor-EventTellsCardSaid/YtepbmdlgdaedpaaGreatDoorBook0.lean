/- Cells of lists of anything; copies; functions as values; what a book of lists holds. Plain lemmas over the model; no program. -/
import Derived.Test.YtepbmdlgdaedpaaGreatDoorHs
namespace Go.Dk
open Go Go.RowKit
/-- elements' cells, one behind the other -/
def cel {α : Type} (C : α → List Value) (l : List α) : List Value := (l.map C).flatten
theorem flat_one {α : Type} (f : α → Value) (xs : List α) : (xs.map fun x => [f x]).flatten = xs.map f := by
  induction xs with
  | nil => rfl
  | cons x xs ih => rw [List.map_cons, List.flatten_cons, ih]; rfl
section
variable {α : Type} {C : α → List Value} {l m : List α} {sz i : Nat} {x : α}
end
section
variable {P : Program} {Q : Exit → Act → World → Prop} {w w0 w' : World} {n : Nat} {F : List (Nat × Value)} {a : Act} {o : Oper} {d : Nat} {R S : List Seg} {X : Seg} {e : TypeId} {size m : Nat} {v : Value} {W : List Value} {K : Act → World → Prop} {x y z : Operand} {t tx ty te : TypeId}
/-- a function that is a value is called -/
theorem ws_callV {f : FuncId} (hF : Fr n F a) (hd : o.dst = some d) (hlt : d < n) (hc : CallsTo P f) {args : Array Operand} {ts : Array TypeId} (ho : o.op = .call { callee := .value x, args := args, argTypes := ts }) (hx : ev F x = some (.func (.func f) #[] #[]))
    {vals : List Value} (hv : evs F args.toList = some vals) (h : Calls P f vals.toArray w (fun e w' => ∃ v, e = .returned v ∧ ∀ a', Fr n ((d, v) :: F) a' → K a' w')) : o.wp P a w K Q := by
  obtain ⟨fn, hfn, hnm, hbd⟩ := hc
  have hargs : args.map a.eval = vals.toArray := by
    have h1 : ∀ (xs : List Operand) (vs : List Value), xs.map (Dk.ev F) = vs.map some → xs.map a.eval = vs := by
      intro xs
      induction xs with
      | nil => intro vs h; cases vs <;> simp_all
      | cons x xs ih =>
        intro vs h
        cases vs with
        | nil => simp at h
        | cons u us =>
          simp only [List.map_cons, List.cons.injEq] at h
          simp only [List.map_cons, hF.ev h.1, ih us h.2]
    have h2 := h1 args.toList vals (evs_spec _ _ hv)
    apply Array.ext'
    rw [Array.toList_map, h2]
  have hrun : (execOp a.eval o).run P w = .ok (.enter f vals.toArray) w := by
    unfold execOp
    simp only [ho, resolve, hargs, hF.ev hx, Deferred.ofValue, invoke, callFunc, Sem.run_bind, Sem.run_pure, Result.andThen_ok, run_program, hfn, hnm, hbd, Bool.false_eq_true, if_false]
    simp
  unfold Oper.wp
  rw [hrun, Oper.upon_enter]
  refine h.mono ?_
  rintro e w' ⟨v, rfl, hK⟩
  rw [hd]
  exact hK _ (hF.put hlt)
end
/-- a list that is kept: the slice, its elements, its memory; its copy -/
structure KeptX (α : Type) where
  v : Value
  l : List α
  X : Seg
  cv : Value
  Z : Seg
section
variable {α : Type}
def kflat (ks : List (KeptX α)) : Seg := ks.flatMap fun k => k.X ++ k.Z
def KOK (C : α → List Value) (e : TypeId) (sz : Nat) (k : KeptX α) : Prop :=
  (∀ x ∈ k.l, (C x).length = sz) ∧ k.l.length ≤ 9223372036854775807 ∧ Buf e sz k.X k.v k.l.length (cel C k.l) ∧ Buf e sz k.Z k.cv k.l.length (cel C k.l)
/-- a book: its row, and behind it all that it holds -/
def BookS (C : α → List Value) (BT se e : TypeId) (sz bb : Nat) (ks : List (KeptX α)) (Y : Seg) : Prop :=
  ks.length ≤ 4000 ∧ ∃ lv wv held XL XW, Buf se 1 XL lv ks.length (ks.map (·.v)) ∧ Buf se 1 XW wv ks.length (ks.map (·.cv)) ∧ (∀ k ∈ ks, KOK C e sz k) ∧ Y = row bb BT [lv, wv, .int .i64 held, .bool false] :: (XL ++ (XW ++ kflat ks))
theorem BookS.new (C : α → List Value) (BT se e : TypeId) (sz bb : Nat) : BookS C BT se e sz bb [] [row bb BT [.slice none 0 0, .slice none 0 0, .int .i64 0, .bool false]] :=
  ⟨Nat.zero_le _, _, _, 0, [], [], Buf.nil _ _, Buf.nil _ _, (fun _ h => by cases h), rfl⟩
theorem Buf.tail {e : TypeId} {X : Seg} {v u : Value} {m : Nat} {W : List Value} (h : Buf e 1 X v (m + 1) (u :: W)) : ∃ g c o, v = .slice (some ⟨g, o, none⟩) (m + 1) (c + 1) ∧ Buf e 1 X (.slice (some ⟨g, o + 1, none⟩) m c) m W := by
  rcases h.2 with ⟨_, h2, _⟩ | ⟨g, c, B, Z, h1, h2, h4, h5⟩
  · omega
  · obtain ⟨c', rfl⟩ : ∃ c', c = c' + 1 := ⟨c - 1, by omega⟩
    refine ⟨g, c', B.length, h1, ?_, .inr ⟨g, c', B ++ [u], Z, by simp, by omega, by omega, by rw [h5]; simp⟩⟩
    have := h.1
    simp only [List.length_cons] at this
    omega
end
section
variable {P : Program} {Q : Exit → Act → World → Prop} {w : World} {n : Nat} {F : List (Nat × Value)} {a : Act} {ops : Array Oper} {rest : List Oper} {o : Oper} {d : Nat}
/-- a step that waits for a step that was left out is left out too -/
theorem vc_skipU (hF : Fr n F a) (hd : o.dst = some d) {j dj : Nat} {want : Bool} {oj : Oper} (hg : o.guard = some (j, want)) (hj : ops[j]? = some oj) (hdj : oj.dst = some dj) (hl : Go.Dk.look F dj = some undef) (hlt : d < n)
    (h : ∀ a', Fr n ((d, undef) :: F) a' → wpList P ops Q rest a' w) : wpList P ops Q (o :: rest) a w :=
  wpList_step (fun K hK => by
    have h1 := hF.has dj _ hl
    have h2 : Region.wanted o (yielded ops a.tmps) = false := by
      unfold Region.wanted
      simp only [hg, yielded, hj, hdj, Option.bind_some, h1]
      rfl
    rw [if_neg (by rw [h2]; simp), hd]
    exact hK _ _ (h _ (hF.put hlt)))
end
end Go.Dk
