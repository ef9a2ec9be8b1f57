/- Ranges over functions in the segment way: regions are walked as everywhere and lifted into a round's frame, or behind a loop's mark; the loop's record lies in a segment of its own. Plain lemmas over the model; no program. -/
import Derived.Test.YtpomngkcfbnjoaaDoorTree
import Derived.Test.YtpomngkcfbnjoaaDoorRt
import Derived.RangeFuncNested
import Derived.RangeFuncLeaves
import Derived.OrdersIn
import Derived.TacticsIn
namespace Go.Dk
open Go Go.RowKit
/-- marks behind the activation's own deferred calls -/
def wd (D : List Deferred) (a : Act) : Act := { a with defers := a.defers ++ D }
abbrev fc (ro : Option Nat) : Fence := { Fence.wide with round := ro }
def noDefer (l : List Oper) : Bool := l.all fun o => match o.op with | .defer _ => false | _ => true
theorem noDefer_of {l : List Oper} {o : Oper} (h : noDefer l = true) (ho : o ∈ l) : ∀ c, o.op ≠ .defer c := fun c e => by
  have h1 := List.all_eq_true.1 h o ho
  rw [e] at h1
  cases h1
section
variable {P : Program} {ro : Option Nat} {m n : Nat} {D : List Deferred} {w w0 : World} {a : Act} {F : List (Nat × Value)} {S R : List Seg}
theorem callsIn_fc {f : FuncId} {args : Array Value} {R : Ending → World → Prop} : CallsIn (fc ro) m P f args w R ↔ Calls P f args w R := callsIn_wide (n := m)
theorem rowsIn_fc {row : String} {args : Array Value} {R : Value → World → Prop} (h : Rows P row args w R) : RowsIn (fc ro) m P row args w R := fun c cs _ => by
  obtain ⟨v, w', r, s⟩ := h c cs
  exact ⟨v, w', r, stepsIn_wide.2 s⟩
theorem op_in {o : Oper} (hnd : ∀ c, o.op ≠ .defer c) {K K' : Act → World → Prop} {Q Q' : Exit → Act → World → Prop} (hK : ∀ a w, K a w → K' (wd D a) w) (hQ : ∀ c a w, Q (.panic c) a w → Q' (.panic c) (wd D a) w) (hO : LetsOut Q → LetsOut Q')
    (h : o.wp P a w K Q) : o.wpIn (fc ro) m P (wd D a) w K' Q' := by
  refine ⟨fun _ _ => trivial, ?_⟩
  rw [Oper.semAt_eq _ _ _ hnd]
  unfold Oper.wp at h
  have he : (wd D a).eval = a.eval := rfl
  have hp : ∀ v, (wd D a).put o.dst v = wd D (a.put o.dst v) := fun v => by cases o.dst <;> rfl
  rw [he]
  generalize (execOp a.eval o).run P w = r at h ⊢
  cases r with
  | ok x w' =>
    cases x with
    | value v => rw [Oper.upon_value] at h; rw [Oper.uponIn_value, hp]; exact hK _ _ h
    | skip => rw [Oper.upon_skip] at h; rw [Oper.uponIn_skip, hp]; exact hK _ _ h
    | defer d =>
      rw [Oper.upon_defer] at h
      rw [Oper.uponIn_defer]
      have h2 := hK _ _ h
      have e : wd D (({ a with defers := d :: a.defers } : Act).put o.dst undef) = ({ wd D a with defers := d :: (wd D a).defers } : Act).put o.dst undef := by cases o.dst <;> rfl
      rw [e] at h2
      exact h2
    | enter f args =>
      rw [Oper.upon_enter] at h
      rw [Oper.uponIn_enter]
      refine ⟨(fun hh => by cases hh), callsIn_fc.2 (Calls.mono h (fun e w'' he => ?_))⟩
      cases e with
      | returned v => simp only; rw [hp]; exact hK _ _ he
      | panicked c => exact hQ _ _ _ he
      | outgrown => exact hO he
    | row r args =>
      rw [Oper.upon_row] at h
      rw [Oper.uponIn_row]
      refine ⟨(fun hh => by cases hh), rowsIn_fc (Rows.mono h (fun v w'' he => ?_))⟩
      rw [hp]
      exact hK _ _ he
    | _ => exact h.elim
  | halt x w' =>
    cases x with
    | panic v => rw [Oper.upon_panic] at h; rw [Oper.uponIn_panic]; exact hQ _ _ _ h
    | _ => exact h.elim
theorem list_in {ops : Array Oper} {Q Q' : Exit → Act → World → Prop} (hQn : ∀ a w, Q .normal a w → Q' .normal (wd D a) w) (hQ : ∀ c a w, Q (.panic c) a w → Q' (.panic c) (wd D a) w) (hno : ¬ LetsOut Q) :
    ∀ (l : List Oper) (a : Act) (w : World), (∀ o ∈ l, ∀ c, o.op ≠ .defer c) → wpList P ops Q l a w → wpListIn (fc ro) m P ops Q' l (wd D a) w
  | [], a, w, _, h => hQn _ _ h
  | o :: l, a, w, hnd, h => by
    unfold wpList at h
    unfold wpListIn
    have hy : yielded ops (wd D a).tmps = yielded ops a.tmps := rfl
    rw [hy]
    split
    · rename_i hw
      rw [if_pos hw] at h
      rcases h with h | h
      · exact op_in (hnd o (List.mem_cons_self ..)) (fun a w h => list_in hQn hQ hno l a w (fun x hx => hnd x (List.mem_cons_of_mem _ hx)) h) hQ (fun h => absurd h hno) h
      · exact absurd h.2 hno
    · rename_i hw
      rw [if_neg hw] at h
      refine ⟨fun _ _ => trivial, ?_⟩
      have hp : (wd D a).put o.dst undef = wd D (a.put o.dst undef) := by cases o.dst <;> rfl
      rw [hp]
      exact list_in hQn hQ hno l _ _ (fun x hx => hnd x (List.mem_cons_of_mem _ hx)) h
theorem any_in {md : Region.Mode} {ops : Array Oper} {Q Q' : Exit → Act → World → Prop} (hQn : ∀ a w, Q .normal a w → Q' .normal (wd D a) w) (hQ : ∀ c a w, Q (.panic c) a w → Q' (.panic c) (wd D a) w) (hno : ¬ LetsOut Q) (hnd : ∀ o ∈ ops.toList, ∀ c, o.op ≠ .defer c) :
    ∀ (fuel : Nat) (listed : Array Bool) (a : Act) (w : World), wpAny P md ops Q fuel listed a w → wpAnyIn (fc ro) m P md ops Q' fuel listed (wd D a) w
  | 0, _, _, _, h => ⟨h.1, hQn _ _ h.2⟩
  | fuel + 1, listed, a, w, h => by
    refine ⟨fun he => hQn _ _ (h.1 he), fun i hi => ?_⟩
    have h1 := h.2 i hi
    unfold wpOp at h1
    unfold wpOpIn
    cases ho : ops[i]? with
    | none => simp only [ho] at h1 ⊢; exact any_in hQn hQ hno hnd fuel _ a w h1
    | some o =>
      simp only [ho] at h1 ⊢
      have hy : yielded ops (wd D a).tmps = yielded ops a.tmps := rfl
      have hmem : o ∈ ops.toList := by rw [Array.getElem?_eq_some_iff] at ho; obtain ⟨hlt, rfl⟩ := ho; exact Array.getElem_mem_toList hlt
      rw [hy]
      split
      · rename_i hw
        rw [if_pos hw] at h1
        rcases h1 with h1 | h1
        · exact op_in (hnd o hmem) (fun a w h => any_in hQn hQ hno hnd fuel _ a w h) hQ (fun h => absurd h hno) h1
        · exact absurd h1.2 hno
      · rename_i hw
        rw [if_neg hw] at h1
        refine ⟨fun _ _ => trivial, ?_⟩
        have hp : (wd D a).put o.dst undef = wd D (a.put o.dst undef) := by cases o.dst <;> rfl
        rw [hp]
        exact any_in hQn hQ hno hnd fuel _ _ _ h1
/-! ### Control -/
section
variable {Q : Exit → Act → World → Prop}
theorem wq_seq_k {x y : Code} (h : ∀ K : Act → World → Prop, (∀ a w, y.wpIn (fc ro) m P Q a w → K a w) → x.wpIn (fc ro) m P (Exit.then K Q) a w) : (Code.seq x y).wpIn (fc ro) m P Q a w := wpIn_seq_k h
theorem wq_true {c : Operand} {x y : Code} (hF : Fr n F a) (hc : ev F c = some (.bool true)) (h : x.wpIn (fc ro) m P Q (wd D a) w) : (Code.cond c x y).wpIn (fc ro) m P Q (wd D a) w := wpIn_cond_true (show (wd D a).eval c = _ from hF.ev hc) h
theorem wq_false {c : Operand} {x y : Code} (hF : Fr n F a) (hc : ev F c = some (.bool false)) (h : y.wpIn (fc ro) m P Q (wd D a) w) : (Code.cond c x y).wpIn (fc ro) m P Q (wd D a) w := wpIn_cond_false (show (wd D a).eval c = _ from hF.ev hc) h
theorem wq_region_lit {id : Nat} {l : List Oper} (hno : ¬ LetsOut Q) (hnd : noDefer l = true) (h : wpList P l.toArray (fun e a w => Q e (wd D a) w) l a w) : (Code.region id l.toArray false).wpIn (fc ro) m P Q (wd D a) w :=
  wpIn_region_lit (list_in (Q := fun e a w => Q e (wd D a) w) (Q' := Q) (fun _ _ h => h) (fun _ _ _ h => h) (fun ⟨_, _, h⟩ => hno ⟨_, _, h⟩) l a w (fun o ho => noDefer_of hnd ho) h)
theorem any_wq {id : Nat} {l : List Oper} (hno : ¬ LetsOut Q) (hnd : noDefer l = true) (hm : P.follows .mixedOrders = true)
    (h : wpAny P .any l.toArray (Ends fun e a w => Q e (wd D a) w) l.toArray.size (Array.replicate l.toArray.size false) a w.drew) : (Code.region id l.toArray true).wpIn (fc ro) m P Q (wd D a) w :=
  wpIn_region_any hm (any_in (Q := Ends fun e a w => Q e (wd D a) w) (Q' := Q) (fun _ _ h => h) (fun _ _ _ h => h.elim) (fun ⟨_, _, h⟩ => hno ⟨_, _, h⟩) (fun o ho => noDefer_of hnd (by simpa using ho)) _ _ a w.drew h)
theorem wq_region_plan {id : Nat} {l : List Oper} (hno : ¬ LetsOut Q) (hnd : noDefer l = true) (k : Nat) (loud order : List Nat) (S : World → Prop) (hm : P.follows .mixedOrders = true) (hB : planOK .any l.toArray k loud order = true)
    (hS : S w.drew) (h : wpPlan P l.toArray (Ends fun e a w => Q e (wd D a) w) S k loud order a w.drew) : (Code.region id l.toArray true).wpIn (fc ro) m P Q (wd D a) w := by
  simp only [planOK, Bool.and_eq_true, beq_iff_eq] at hB
  obtain ⟨⟨⟨⟨h1, h2⟩, h3⟩, h4⟩, h5⟩ := hB
  have h6 := plan_sound (P := P) (Q := Ends fun e a w => Q e (wd D a) w) h1 h2 h3 (fun _ _ _ hp => hp) order _ a w.drew h5 (closed_none _) (fun _ => hS) h
  rw [h4] at h6
  exact any_wq hno hnd hm (wpAny_of_T _ _ _ _ h6)
end
/-! ### The loop's record in a segment -/
theorem Hp.putObj {g : Nat} {o o' : Obj} {T : Seg} (h : Hp w0 (((g, o) :: T) :: R) w) : Hp w0 (((g, o') :: T) :: R) (w.putObj g o') := by
  have hlt := h.lt (r := (g, o)) (by rw [List.flatten_cons]; exact List.mem_append_left _ (List.mem_cons_self ..))
  have hnew := h.new (g, o) (by rw [List.flatten_cons]; exact List.mem_append_left _ (List.mem_cons_self ..))
  have hd := h.dist
  rw [List.flatten_cons, List.cons_append, List.map_cons, List.nodup_cons] at hd
  refine ⟨h.os, h.tape, h.output, by rw [World.putObj_size]; exact h.size, fun r hr => ?_, ?_, fun r hr => ?_, fun k hk => ?_⟩
  · rw [List.flatten_cons, List.cons_append] at hr
    rcases List.mem_cons.1 hr with rfl | hr
    · exact World.putObj_heap_same hlt
    · rw [World.putObj_heap_other (fun e => hd.1 (List.mem_map.2 ⟨r, hr, e⟩))]
      exact h.items r (by rw [List.flatten_cons, List.cons_append]; exact List.mem_cons_of_mem _ hr)
  · rw [List.flatten_cons, List.cons_append, List.map_cons, List.nodup_cons]; exact hd
  · rw [List.flatten_cons, List.cons_append] at hr
    rcases List.mem_cons.1 hr with rfl | hr
    · exact hnew
    · exact h.new r (by rw [List.flatten_cons, List.cons_append]; exact List.mem_cons_of_mem _ hr)
  · rw [World.putObj_heap_other (by intro e; have : w0.heap.size ≤ g := hnew; omega)]; exact h.frame k hk
theorem Hp.objAt {g : Nat} {o : Obj} {T : Seg} (h : Hp w0 (((g, o) :: T) :: R) w) : w.heap[g]? = some o := h.items (g, o) (by rw [List.flatten_cons]; exact List.mem_append_left _ (List.mem_cons_self ..))
theorem Hp.newObj (h : Hp w0 R w) (o : Obj) : Hp w0 ([(w.heap.size, o)] :: R) (w.alloc o) := Hl.obj h o
abbrev markD (d : Nat) : Deferred := { target := .collected d, args := #[] }
/-- the loop's record -/
abbrev recL (fn : FuncId) (a : Act) (ps : Array Tmp) (assign body : Code) (d : Nat) (st : LoopState) (pe : Option Code) : Obj := .loop { state := st, pending := pe, fn := fn, tmps := a.tmps, params := ps, assign := assign, body := body, defers := d }
def IsRec (b : Act) (ps : Array Tmp) (assign body : Code) (rc : LoopState → Option Code → Obj) : Prop := ∃ fn d, rc = recL fn b ps assign body d
/-- what the function that is ranged over must bring about -/
def LoopEnd (P : Program) (ro : Option Nat) (m : Nat) (w0 : World) (Q : Exit → Act → World → Prop) (a : Act) (l : Nat) (rc : LoopState → Option Code → Obj) (e : Ending) (w3 : World) : Prop :=
  (∃ v, e = .returned v) ∧ ∃ st pe S', st ≠ .busy ∧ Hp w0 ([(l, rc st pe)] :: S') w3 ∧ ∀ w4, Hp w0 S' w4 → match pe with
    | none => Q .normal a w4
    | some c => c.wpIn (fc ro) m P Q a w4
theorem enters_callsTo {f : FuncId} (hc : CallsTo P f) (args : Array Value) (w : World) : (callFunc f args).run P w = .ok (.enter f args) w := by
  obtain ⟨fn, h1, h2, h3⟩ := hc
  simp only [callFunc, Sem.run_bind, Sem.run_pure, Result.andThen_ok, run_program, h1, h2, h3, Bool.false_eq_true, if_false]
theorem range_post {Q : Exit → Act → World → Prop} {l : Nat} {fn : FuncId} {ps : Array Tmp} {assign body : Code} {d : Nat} {b : Act} : ∀ e w3, LoopEnd P ro m w0 Q a l (recL fn b ps assign body d) e w3 → rangePost (fc ro) m P l Q a e w3 := by
  rintro e w3 ⟨⟨v, rfl⟩, st, pe, S', hst, hA, h⟩
  have h1 := run_endLoop (P := P) hA.objAt hst
  refine ⟨pe, _, h1, ?_⟩
  have h2 := h _ (Hp.tail (Hp.putObj (o' := .loop { ({ state := st, pending := pe, fn := fn, tmps := b.tmps, params := ps, assign := assign, body := body, defers := d } : Loop) with state := .exhausted }) hA))
  cases pe <;> exact h2
theorem wq_range {Q : Exit → Act → World → Prop} {g : Operand} {ps : Array Tmp} {assign body : Code} {gf : Nat} {lb : Array Value} {D0 : List Deferred} (hF : Fr n F a) (hg : ev F g = some (.func (.func gf) #[] lb)) (hc : CallsTo P gf) (hA : Hp w0 S w)
    (h : ∀ (d l : Nat) (rc : LoopState → Option Code → Obj) (w1 : World), IsRec a ps assign body rc → Hp w0 ([(l, rc .ready none)] :: [(d, .deferred (some []))] :: S) w1 →
      Calls P gf (#[.func (.yield l) #[] #[]] ++ lb) w1 (LoopEnd P none m w0 Q (wd (markD d :: D0) a) l rc)) :
    (Code.rangeFunc g ps assign body).wpIn (fc none) m P Q (wd D0 a) w := by
  refine wpIn_rangeFunc ?_
  intro fn _
  have hev : (wd D0 a).eval g = .func (.func gf) #[] lb := hF.ev hg
  have h1 : Hp w0 ([(w.heap.size + 1, recL fn a ps assign body w.heap.size .ready none)] :: [(w.heap.size, .deferred (some []))] :: S) ((w.alloc (.deferred (some []))).alloc (recL fn a ps assign body w.heap.size .ready none)) := by
    have h2 := (hA.newObj (.deferred (some []))).newObj (recL fn a ps assign body w.heap.size .ready none)
    rwa [World.size_alloc] at h2
  generalize hW : (w.alloc (.deferred (some []))).alloc (recL fn a ps assign body w.heap.size .ready none) = W1 at h1
  refine ⟨w.heap.size + 1, [markD w.heap.size], W1, { target := .fn (.func gf) lb, args := #[.func (.yield (w.heap.size + 1)) #[] #[]] }, W1, gf, #[.func (.yield (w.heap.size + 1)) #[] #[]] ++ lb, W1, hW ▸ run_enterLoop_outer _ _ _ _ _, ?_, fun _ _ => trivial, ?_, (fun hh => by cases hh), callsIn_fc.2 ?_⟩
  · simp only [resolve, hev]
    simp [go_sem]
  · simp only [invoke]
    exact enters_callsTo hc _ _
  · have e : ({ wd D0 a with defers := [markD w.heap.size] ++ (wd D0 a).defers } : Act) = wd (markD w.heap.size :: D0) a := by
      unfold wd
      rw [hF.defers]
      rfl
    rw [e]
    exact (h w.heap.size (w.heap.size + 1) _ _ ⟨fn, w.heap.size, rfl⟩ h1).mono range_post
/-- within a round of another loop -/
theorem wq_rangeN {Q : Exit → Act → World → Prop} {g : Operand} {ps : Array Tmp} {assign body : Code} {gf : Nat} {lb : Array Value} {l0 : Nat} {rc0 : LoopState → Option Code → Obj} {b0 : Act} {ps0 : Array Tmp} {as0 bd0 : Code} {T : Seg} (hF : Fr n F a) (hg : ev F g = some (.func (.func gf) #[] lb)) (hc : CallsTo P gf)
    (hr0 : IsRec b0 ps0 as0 bd0 rc0) (hA : Hp w0 (((l0, rc0 .busy none) :: T) :: S) w)
    (h : ∀ (l : Nat) (rc : LoopState → Option Code → Obj) (w1 : World), IsRec a ps assign body rc → Hp w0 ([(l, rc .ready none)] :: ((l0, rc0 .busy none) :: T) :: S) w1 →
      Calls P gf (#[.func (.yield l) #[] #[]] ++ lb) w1 (LoopEnd P (some l0) m w0 Q (wd D a) l rc)) :
    (Code.rangeFunc g ps assign body).wpIn (fc (some l0)) m P Q (wd D a) w := by
  obtain ⟨fn0, d0, rfl⟩ := hr0
  refine wpIn_rangeFunc ?_
  intro fn _
  have hev : (wd D a).eval g = .func (.func gf) #[] lb := hF.ev hg
  have h1 := hA.newObj (recL fn a ps assign body d0 .ready none)
  generalize hW : w.alloc (recL fn a ps assign body d0 .ready none) = W1 at h1
  refine ⟨w.heap.size, [], W1, { target := .fn (.func gf) lb, args := #[.func (.yield w.heap.size) #[] #[]] }, W1, gf, #[.func (.yield w.heap.size) #[] #[]] ++ lb, W1, hW ▸ run_enterLoop_inner hA.objAt _ _ _ _ _, ?_, fun _ _ => trivial, ?_, (fun hh => by cases hh), callsIn_fc.2 ?_⟩
  · simp only [resolve, hev]
    simp [go_sem]
  · simp only [invoke]
    exact enters_callsTo hc _ _
  · exact (h w.heap.size _ _ ⟨fn, d0, rfl⟩ h1).mono range_post
/-! ### One round -/
/-- a call of yield, in a function's walk -/
def Ydl (P : Program) (l : Nat) (args : Array Value) (w : World) (R : Ending → World → Prop) : Prop := YieldAt (fc none) 0 P l args w R
theorem Ydl.mono {l : Nat} {args : Array Value} {RR RR' : Ending → World → Prop} (h : Ydl P l args w RR) (hr : ∀ e w, RR e w → RR' e w) : Ydl P l args w RR' := by
  obtain ⟨fn, tmps, assign, body, hy, hR⟩ := h
  exact ⟨fn, tmps, assign, body, hy, hR.mono hr⟩
theorem hs_round {l p : Nat} {v : Value} {assign body : Code} {b : Act} {rc : LoopState → Option Code → Obj} {RR : Ending → World → Prop} (hr : IsRec b #[p] assign body rc) (hF : Fr n F b) (hp : p < n) (hA : Hp w0 ([(l, rc .ready none)] :: S) w)
    (h : ∀ a2, Fr n ((p, v) :: F) a2 → assign.wpIn (fc (some l)) 0 P (Exit.then (fun a1 w1 => ∃ S1, Hp w0 ([(l, rc .ready none)] :: S1) w1 ∧ ∀ w2, Hp w0 ([(l, rc .busy none)] :: S1) w2 → body.wpIn (fc (some l)) 0 P (roundPost P l RR) a1 w2) (fun _ _ _ => False)) (wd [] a2) w) : Ydl P l #[v] w RR := by
  obtain ⟨fn, d, rfl⟩ := hr
  refine ⟨fn, _, assign, body, run_yield hA.objAt rfl, roundIn_of_wpIn (F := fc none) (n := 0) trivial (wpIn_mono (h { tmps := ((#[p] : Array Tmp).zip #[v]).foldl (fun t (p, v) => t.setIfInBounds p v) b.tmps, defers := [] } ?_) ?_)⟩
  · have h1 := (show Fr n F ({ tmps := b.tmps, defers := [] } : Act) from ⟨hF.size, rfl, hF.has⟩).put (v := v) hp
    have e : ((#[p] : Array Tmp).zip #[v]).foldl (fun t (p, v) => t.setIfInBounds p v) b.tmps = b.tmps.setIfInBounds p v := by simp
    rw [e]
    exact h1
  · rintro e a1 w1 hq
    cases e with
    | normal =>
      obtain ⟨S1, h1, h2⟩ := hq
      exact ⟨_, run_beginRound h1.objAt rfl, h2 _ (Hp.putObj h1)⟩
    | _ => exact hq
section
variable {l : Nat} {ps : Array Tmp} {assign body : Code} {b : Act} {rc : LoopState → Option Code → Obj} {RR : Ending → World → Prop}
theorem rp_normal (hr : IsRec b ps assign body rc) (hA : Hp w0 ([(l, rc .busy none)] :: S) w) (h : ∀ w', Hp w0 ([(l, rc .ready none)] :: S) w' → RR (.returned (.bool true)) w') : roundPost P l RR .normal a w := by
  obtain ⟨fn, d, rfl⟩ := hr
  exact ⟨_, _, run_endRound none hA.objAt, h _ (Hp.putObj hA)⟩
theorem rp_ret (hr : IsRec b ps assign body rc) (hA : Hp w0 ([(l, rc .busy none)] :: S) w) (h : ∀ w', Hp w0 ([(l, rc .done (some .ret))] :: S) w' → RR (.returned (.bool false)) w') : roundPost P l RR .ret a w := by
  obtain ⟨fn, d, rfl⟩ := hr
  exact ⟨_, _, run_endRound (some .ret) hA.objAt, h _ (Hp.putObj hA)⟩
theorem rp_exit {id : Nat} (hr : IsRec b ps assign body rc) (hA : Hp w0 ([(l, rc .busy none)] :: S) w) (h : ∀ w', Hp w0 ([(l, rc .done (some (.exit id)))] :: S) w' → RR (.returned (.bool false)) w') : roundPost P l RR (.exit id) a w := by
  obtain ⟨fn, d, rfl⟩ := hr
  exact ⟨_, _, run_endRound (some (.exit id)) hA.objAt, h _ (Hp.putObj hA)⟩
end
/-! ### A call of yield by its value -/
theorem op_yield {o : Oper} {d l : Nat} {K : Act → World → Prop} {Q : Exit → Act → World → Prop} {x : Operand} {args : Array Operand} {ts : Array TypeId} (hF : Fr n F a) (hd : o.dst = some d) (hlt : d < n) (ho : o.op = .call { callee := .value x, args := args, argTypes := ts }) (hx : ev F x = some (.func (.yield l) #[] #[]))
    {vals : List Value} (hv : evs F args.toList = some vals) (h : Ydl P l vals.toArray w (fun e w' => ∃ v, e = .returned v ∧ ∀ a', Fr n ((d, v) :: F) a' → K a' w')) : o.wpIn (fc none) 0 P a w K Q := by
  have hargs : args.map a.eval = vals.toArray := by
    have h1 : ∀ (xs : List Operand) (vs : List Value), xs.map (Dk.ev F) = vs.map some → xs.map a.eval = vs := by
      intro xs
      induction xs with
      | nil => intro vs h; cases vs <;> simp_all
      | cons x xs ih =>
        intro vs h
        cases vs with
        | nil => simp at h
        | cons u us =>
          simp only [List.map_cons, List.cons.injEq] at h
          simp only [List.map_cons, hF.ev h.1, ih us h.2]
    have h2 := h1 args.toList vals (evs_spec _ _ hv)
    apply Array.ext'
    rw [Array.toList_map, h2]
  obtain ⟨fn, tmps, assign, body, hy, hR⟩ := h
  have hrun : (execOp a.eval o).run P w = .ok (.round l fn tmps assign body) w := by
    unfold execOp
    simp only [ho, resolve, hargs, hF.ev hx, Deferred.ofValue, Sem.run_bind, Sem.run_pure, Result.andThen_ok, invoke]
    simpa using hy
  refine ⟨fun _ _ => trivial, ?_⟩
  rw [show (fc none).round = none from rfl, Oper.semAt_none, hrun, Oper.uponIn_round]
  refine ⟨(fun hh => by cases hh), hR.mono ?_⟩
  rintro e w' ⟨v, rfl, hK⟩
  simp only
  rw [hd]
  exact hK _ (hF.put hlt)
/-- other operations ahead of it -/
theorem wl_op {ops : Array Oper} {rest : List Oper} {o : Oper} {Q : Exit → Act → World → Prop} (hg : o.guard = none) (hnd : noDefer [o] = true) (hno : ¬ LetsOut Q) (h : o.wp P a w (fun a w => wpListIn (fc ro) m P ops Q rest a w) Q) : wpListIn (fc ro) m P ops Q (o :: rest) a w := by
  have e : ∀ a, wd [] a = a := fun a => by unfold wd; rw [List.append_nil]
  have h1 := op_in (ro := ro) (m := m) (D := []) (K' := fun a w => wpListIn (fc ro) m P ops Q rest a w) (Q' := Q) (noDefer_of hnd (List.mem_singleton.2 rfl)) (fun a w h => by rw [e]; exact h) (fun c a w h => by rw [e]; exact h) (fun h => h) h
  rw [e] at h1
  exact wpListIn_plain hg (fun K hK => Oper.wpIn_mono hK h1)
theorem wl_y {ops : Array Oper} {rest : List Oper} {o : Oper} {d : Nat} {Q : Exit → Act → World → Prop} (hF : Fr n F a) (hd : o.dst = some d) (hg : o.guard = none) (hnd : noDefer [o] = true) (hno : ¬ LetsOut Q) (hlt : d < n) (v : Value) (y : Yd P n F o w v)
    (h : ∀ a', Fr n ((d, v) :: F) a' → wpListIn (fc ro) m P ops Q rest a' w) : wpListIn (fc ro) m P ops Q (o :: rest) a w :=
  wl_op hg hnd hno (by
    unfold Oper.wp
    rw [y a hF, Oper.upon_value, hd]
    exact h _ (hF.put hlt))
theorem wd_nil (a : Act) : wd [] a = a := by unfold wd; rw [List.append_nil]
theorem wl_yield {ops : Array Oper} {rest : List Oper} {o : Oper} {Q : Exit → Act → World → Prop} {d l : Nat} {x : Operand} {args : Array Operand} {ts : Array TypeId} (hF : Fr n F a) (hg : o.guard = none) (hd : o.dst = some d) (hlt : d < n) (ho : o.op = .call { callee := .value x, args := args, argTypes := ts }) (hx : ev F x = some (.func (.yield l) #[] #[]))
    {vals : List Value} (hv : evs F args.toList = some vals) (h : Ydl P l vals.toArray w (fun e w' => ∃ v, e = .returned v ∧ ∀ a', Fr n ((d, v) :: F) a' → wpListIn (fc none) 0 P ops Q rest a' w')) : wpListIn (fc none) 0 P ops Q (o :: rest) a w :=
  wpListIn_plain hg (fun K hK => op_yield hF hd hlt ho hx hv (by
    obtain ⟨fn, tmps, assign, body, hy, hR⟩ := h
    exact ⟨fn, tmps, assign, body, hy, hR.mono (fun e w' ⟨v, he, h2⟩ => ⟨v, he, fun a' hF' => hK _ _ (h2 a' hF')⟩)⟩))
/-! ### A walk's state -/
/-- what lies behind a call of yield: JS: the state behind what has come; JX: it has said no more -/
def WB {α : Type} (w0 : World) (JS : List α → List Seg → Prop) (JX : List Seg → Prop) (R : List Seg) (done : List α) : Bool → World → Prop
  | true, w' => ∃ S', JS done S' ∧ Hp w0 (S' ++ R) w'
  | false, w' => ∃ S', JX S' ∧ Hp w0 (S' ++ R) w'
abbrev WRes {α : Type} (w0 : World) (JS : List α → List Seg → Prop) (JX : List Seg → Prop) (R : List Seg) (done : List α) (e : Ending) (w' : World) : Prop := ∃ b, e = .returned (.bool b) ∧ WB w0 JS JX R done b w'
theorem Hp.under {X : Seg} {S R : List Seg} {w : World} (h : Hp w0 (X :: (S ++ R)) w) : Hp w0 (S ++ (X :: R)) w := by
  refine Hl.perm h ?_
  rw [List.flatten_cons, List.flatten_append, List.flatten_append, List.flatten_cons]
  exact (List.perm_append_comm_assoc _ _ _)
theorem Hp.over {X : Seg} {S R : List Seg} {w : World} (h : Hp w0 (S ++ (X :: R)) w) : Hp w0 (X :: (S ++ R)) w := by
  refine Hl.perm h ?_
  rw [List.flatten_cons, List.flatten_append, List.flatten_append, List.flatten_cons]
  exact (List.perm_append_comm_assoc _ _ _)
theorem WB.drop {α : Type} {JS : List α → List Seg → Prop} {JX : List Seg → Prop} {X : Seg} {R : List Seg} {done : List α} {b : Bool} {w : World} (h : WB w0 JS JX (X :: R) done b w) : WB w0 JS JX R done b w := by
  cases b with
  | true => obtain ⟨S', h1, h2⟩ := h; exact ⟨S', h1, h2.over.tail⟩
  | false => obtain ⟨S', h1, h2⟩ := h; exact ⟨S', h1, h2.over.tail⟩
/-! ### A function's beginning and end -/
theorem vn_enter {f : FuncId} {fn : Func} {c : Code} {args : List Value} {RR : Ending → World → Prop} (hf : P.funcs[f]? = some fn) (hb : fn.body = some c) (hn : fn.ntmps = n) (hle : args.length ≤ n)
    (h : ∀ a, Fr n (slots args 0) a → c.wpIn (fc none) 0 P (bodyPostM (fc none) 0 P fn RR) a w) : Calls P f args.toArray w RR := by
  refine callsIn_fc.1 (callsIn_of_wp_marks (F := fc none) (n := 0) hf hb trivial (h { tmps := args.toArray ++ Array.replicate (fn.ntmps - args.toArray.size) undef, defers := [] } ⟨by simp [hn]; omega, rfl, fun s v hs => ?_⟩) rfl)
  obtain ⟨_, h2⟩ := look_slots _ _ _ _ hs
  rw [Nat.sub_zero] at h2
  have hs : s < args.length := (List.getElem?_eq_some_iff.1 h2).1
  show (args.toArray ++ Array.replicate _ undef)[s]? = some v
  rw [Array.getElem?_append_left (by simpa using hs)]
  simpa using h2
theorem wn_region_lit {id : Nat} {l : List Oper} {Q : Exit → Act → World → Prop} (hno : ¬ LetsOut Q) (hnd : noDefer l = true) (h : wpList P l.toArray Q l a w) : (Code.region id l.toArray false).wpIn (fc ro) m P Q a w := by
  have h1 := wq_region_lit (ro := ro) (m := m) (D := []) (id := id) (Q := Q) (a := a) (w := w) hno hnd (by
    have e : (fun e a w => Q e (wd [] a) w) = Q := by funext e a w; rw [wd_nil]
    rw [e]; exact h)
  rw [wd_nil] at h1
  exact h1
theorem vq_enter {f : FuncId} {fn : Func} {c : Code} {args : List Value} {RR : Ending → World → Prop} (hf : P.funcs[f]? = some fn) (hb : fn.body = some c) (hn : fn.ntmps = n) (hle : args.length ≤ n)
    (h : ∀ a, Fr n (slots args 0) a → c.wpIn (fc none) 0 P (bodyPostM (fc none) 0 P fn RR) (wd [] a) w) : Calls P f args.toArray w RR := by
  refine callsIn_fc.1 (callsIn_of_wp_marks (F := fc none) (n := 0) hf hb trivial (h { tmps := args.toArray ++ Array.replicate (fn.ntmps - args.toArray.size) undef, defers := [] } ⟨by simp [hn]; omega, rfl, fun s v hs => ?_⟩) rfl)
  obtain ⟨_, h2⟩ := look_slots _ _ _ _ hs
  rw [Nat.sub_zero] at h2
  have hs : s < args.length := (List.getElem?_eq_some_iff.1 h2).1
  show (args.toArray ++ Array.replicate _ undef)[s]? = some v
  rw [Array.getElem?_append_left (by simpa using hs)]
  simpa using h2
section
variable {fn : Func} {RR : Ending → World → Prop}
theorem vq_leave (hF : Fr n F a) (h : LeavesInM (fc none) 0 P fn a.tmps RR D .returning w) : bodyPostM (fc none) 0 P fn RR .ret (wd D a) w := by
  show LeavesInM (fc none) 0 P fn a.tmps RR (a.defers ++ D) .returning w
  rw [hF.defers]
  exact h
theorem vn_ret1 {t : Tmp} {v : Value} (hF : Fr n F a) (hr : fn.results = #[.tmp t]) (hl : look F t = some v) (h : RR (.returned v) w) : bodyPostM (fc none) 0 P fn RR .ret a w := by
  show LeavesInM (fc none) 0 P fn a.tmps RR a.defers .returning w
  rw [hF.defers]
  exact ⟨_, results_tmp hr _ _ _, by rw [hF.at hl]; exact h⟩
theorem leave_mark {d : Nat} {T : Seg} {tmps : Array Value} (hA : Hp w0 (((d, .deferred (some [])) :: T) :: S) w) (h : ∀ w', Hp w0 (((d, .deferred none) :: T) :: S) w' → LeavesInM (fc none) 0 P fn tmps RR D .returning w') : LeavesInM (fc none) 0 P fn tmps RR (markD d :: D) .returning w :=
  ⟨by simp, .inl ⟨d, _, rfl, run_takeDeferred hA.objAt, h _ (Hp.putObj hA)⟩⟩
theorem leave_ret1 {t : Tmp} {v : Value} (hF : Fr n F a) (hr : fn.results = #[.tmp t]) (hl : look F t = some v) (h : RR (.returned v) w) : LeavesInM (fc none) 0 P fn a.tmps RR [] .returning w :=
  ⟨_, results_tmp hr _ _ _, by rw [hF.at hl]; exact h⟩
theorem results_cell1 {t : Tmp} {ty te : TypeId} {g : Nat} {v : Value} {T : Seg} (hF : Fr n F a) (hr : fn.results = #[.cell t ty]) (hA : Hq w0 R w) (hl : look F t = some (.pointer (some ⟨g, 0, none⟩))) (k : Nat) (hk : nth R k = some (row g te [v] :: T)) (hn : notRow P ty = true) : (results fn a.tmps).run P w = .ok v w := by
  have hc : w.cell? ⟨g, 0, none⟩ = some v := by rw [cell_of_row w g 0 _ te (0, 0) (hA.rowAt hk)]; rfl
  have h1 : (loadVar ty ⟨g, 0, none⟩).run P w = .ok v w := by
    simp only [loadVar, Sem.run_bind, Sem.run_pure, Result.andThen_ok, run_isAgg_no hn w, Bool.false_eq_true, if_false, run_load, hc]
  have h2 := hF.at hl
  have hx' : a.tmps[t]?.getD undef = .pointer (some ⟨g, 0, none⟩) := by simpa using h2
  simp [results, hr, hx', h1, asAddr]
theorem leave_retc {t : Tmp} {ty te : TypeId} {g : Nat} {v : Value} {T : Seg} (hF : Fr n F a) (hr : fn.results = #[.cell t ty]) (hA : Hq w0 R w) (hl : look F t = some (.pointer (some ⟨g, 0, none⟩))) (k : Nat) (hk : nth R k = some (row g te [v] :: T)) (hn : notRow P ty = true) (h : RR (.returned v) w) : LeavesInM (fc none) 0 P fn a.tmps RR [] .returning w :=
  ⟨_, results_cell1 hF hr hA hl k hk hn, h⟩
end
end
end Go.Dk
