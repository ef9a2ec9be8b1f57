/- Plans of drawn regions whose condition may grow on the way. Plain lemmas over the model; no program. -/
import Derived.Test.YtppmhlkonemebaaDoorHs
namespace Go.Dk
open Go Go.RowKit
section
variable {P : Program} {ops : Array Oper} {Q : Exit → Act → World → Prop} {md : Region.Mode} {n : Nat}
theorem wpAnyT_mono {S S' : World → Prop} (hs : ∀ x, S' x → S x) : ∀ (fuel : Nat) (listed : Array Bool) (a : Act) (w : World), wpAnyT P md ops Q S' n fuel listed a w → wpAnyT P md ops Q S n fuel listed a w
  | 0, _, _, _, h => h
  | fuel + 1, _, _, _, h => ⟨h.1, fun i hi => wpOp_mono (fun a' w' h' => ⟨fun hi => hs _ (h'.1 hi), wpAnyT_mono hs fuel _ a' w' h'.2⟩) (h.2 i hi)⟩
/-- a plan's walk; ahead of each operation the condition may be made stronger -/
def wpPlanU (P : Program) (ops : Array Oper) (Q : Exit → Act → World → Prop) (n : Nat) (loud : List Nat) : List Nat → (World → Prop) → Act → World → Prop
  | [], _, a, w => Q .normal a w
  | i :: rest, S0, a, w => ∃ S : World → Prop, (∀ x, S x → S0 x) ∧ (S = S0 ∨ S w) ∧
    match ops[i]? with
    | none => False
    | some o =>
      if loud.contains i then wpOp P ops Q i (fun a' w' => (i < n → S w') ∧ wpPlanU P ops Q n loud rest S a' w') a w
      else if Region.wanted o (yielded ops a.tmps) then ∃ v, (∀ x, S x → (execOp a.eval o).run P x = .ok (.value v) x) ∧ wpPlanU P ops Q n loud rest S (a.put o.dst v) w
      else wpPlanU P ops Q n loud rest S (a.put o.dst undef) w
theorem planU_sound {loud : List Nat} (hsel : Region.noSelect ops = true) (hs : sinks md ops n = true) (hc : chained md ops n = true) (hQ : ∀ c a w, ¬ Q (.panic c) a w) :
    ∀ (order : List Nat) (S0 : World → Prop) (listed : Array Bool) (a : Act) (w : World), planB md ops n loud order listed = true → Closed md ops listed → ((order.all loud.contains) = false → S0 w) →
      wpPlanU P ops Q n loud order S0 a w → wpAnyT P md ops Q S0 n order.length listed a w
  | [], _, listed, a, w, hB, _, _, h => ⟨by simpa [planB] using hB, h⟩
  | i :: rest, S0, listed, a, w, hB, hcl, hS0, h => by
    simp only [planB, Bool.and_eq_true] at hB
    obtain ⟨⟨hr, hk⟩, hB'⟩ := hB
    have hr' : i ∈ Region.ready md ops listed := by simpa using hr
    simp only [wpPlanU] at h
    obtain ⟨S, hSS, hor, h⟩ := h
    have hS : ((i :: rest).all loud.contains) = false → S w := fun hq => by
      rcases hor with rfl | hw
      · exact hS0 hq
      · exact hw
    refine wpAnyT_mono hSS _ _ _ _ ?_
    cases ho : ops[i]? with
    | none => simp [ho] at h
    | some o =>
      simp only [ho] at h
      by_cases hl : loud.contains i = true
      · rw [if_pos hl] at h hk
        simp only [Bool.and_eq_true, beq_iff_eq, Bool.or_eq_true, decide_eq_true_eq] at hk
        refine ⟨fun h0 => (by rw [h0] at hr'; cases hr'), fun j hj => ?_⟩
        rw [hk.1] at hj
        simp only [List.mem_singleton] at hj
        subst hj
        refine wpOp_mono (fun a' w' h' => ⟨h'.1, planU_sound hsel hs hc hQ rest S _ a' w' hB' (hcl.set hr') (fun hq => ?_) h'.2⟩) h
        rcases hk.2 with h2 | h2
        · exact h'.1 h2
        · rw [h2] at hq; cases hq
      · have hl' : loud.contains i = false := by simpa using hl
        rw [if_neg hl] at h hk
        simp only [Bool.and_eq_true, decide_eq_true_eq] at hk
        have hSw : S w := hS (by simp only [List.all_cons, hl', Bool.false_and])
        have hrest : (rest.all loud.contains) = false → S w := fun _ => hSw
        by_cases hw : Region.wanted o (yielded ops a.tmps) = true
        · rw [if_pos hw] at h
          obtain ⟨v, h1, h2⟩ := h
          exact wpAnyT_first (v := v) hs hc hk.1 ho (Region.noSelect_spec hsel) (fun c a w hp => (hQ _ _ _ hp).elim) rest.length listed a w hcl (Region.free_spec ho hk.2) hr' (.inl ⟨hw, h1⟩) hSw
            (planU_sound hsel hs hc hQ rest S _ _ w hB' (hcl.set hr') hrest h2)
        · rw [if_neg hw] at h
          exact wpAnyT_first (v := undef) hs hc hk.1 ho (Region.noSelect_spec hsel) (fun c a w hp => (hQ _ _ _ hp).elim) rest.length listed a w hcl (Region.free_spec ho hk.2) hr' (.inr ⟨by simpa using hw, rfl⟩) hSw
            (planU_sound hsel hs hc hQ rest S _ _ w hB' (hcl.set hr') hrest h)
theorem wp_region_planU {id : Nat} {a : Act} {w : World} {l : List Oper} (n : Nat) (loud order : List Nat) (S : World → Prop) (hm : P.follows .mixedOrders = true) (hB : planOK .any l.toArray n loud order = true)
    (hS : S w.drew) (h : wpPlanU P l.toArray (Ends Q) n loud order S a w.drew) : (Code.region id l.toArray true).wp P Q a w := by
  simp only [planOK, Bool.and_eq_true, beq_iff_eq] at hB
  obtain ⟨⟨⟨⟨h1, h2⟩, h3⟩, h4⟩, h5⟩ := hB
  have h6 := planU_sound (P := P) (Q := Ends Q) h1 h2 h3 (fun _ _ _ hp => hp) order S _ a w.drew h5 (closed_none _) (fun _ => hS) h
  rw [h4] at h6
  exact Code.wp_mono (fun e a w q => by cases e <;> first | exact q | exact q.elim) (wp_region_any hm (wpAny_of_T _ _ _ _ h6))
end
section
variable {P : Program} {Q : Exit → Act → World → Prop} {w : World} {n : Nat} {F : List (Nat × Value)} {a : Act}
variable {ops : Array Oper} {S : World → Prop} {hd : Nat} {loud rest : List Nat} {i : Nat} {o : Oper} {d : Nat}
theorem pu_end (h : Q .normal a w) : wpPlanU P ops (Ends Q) n loud [] S a w := h
theorem pu_up {S' : World → Prop} (hs : ∀ x, S' x → S x) (hw : S' w) (h : wpPlanU P ops Q hd loud (i :: rest) S' a w) : wpPlanU P ops Q hd loud (i :: rest) S a w := by
  simp only [wpPlanU] at h ⊢
  obtain ⟨S2, h1, h2, h3⟩ := h
  exact ⟨S2, fun x hx => hs x (h1 x hx), .inr (by rcases h2 with rfl | h2 <;> assumption), h3⟩
theorem pu_q (ho : ops[i]? = some o) (hl : loud.contains i = false) (hw : Region.wanted o (yielded ops a.tmps) = true) (v : Value) (hrun : ∀ x, S x → (execOp a.eval o).run P x = .ok (.value v) x)
    (h : wpPlanU P ops Q n loud rest S (a.put o.dst v) w) : wpPlanU P ops Q n loud (i :: rest) S a w := by
  simp only [wpPlanU, ho, hl, Bool.false_eq_true, if_false, hw, if_true]
  exact ⟨S, fun _ h => h, .inl rfl, v, hrun, h⟩
theorem pu_l (ho : ops[i]? = some o) (hl : loud.contains i = true) (hw : Region.wanted o (yielded ops a.tmps) = true)
    (h : ∀ K : Act → World → Prop, (∀ a' w', (i < n → S w') → wpPlanU P ops Q n loud rest S a' w' → K a' w') → o.wp P a w K Q) : wpPlanU P ops Q n loud (i :: rest) S a w := by
  simp only [wpPlanU, ho, hl, if_true, wpOp, hw]
  exact ⟨S, fun _ h => h, .inl rfl, .inl (h _ (fun _ _ h1 h2 => ⟨h1, h2⟩))⟩
theorem vu_y (hF : Fr n F a) (ho : ops[i]? = some o) (hl : loud.contains i = false) (hdst : o.dst = some d) (hg : o.guard = none) (hlt : d < n) (v : Value) (y : ∀ x, S x → Yd P n F o x v)
    (h : ∀ a', Fr n ((d, v) :: F) a' → wpPlanU P ops Q hd loud rest S a' w) : wpPlanU P ops Q hd loud (i :: rest) S a w := by
  refine pu_q ho hl (by simp [Region.wanted, hg]) v (fun x hx => y x hx a hF) ?_
  rw [hdst]
  exact h _ (hF.put hlt)
theorem vu_yg (hF : Fr n F a) (ho : ops[i]? = some o) (hl : loud.contains i = false) (hdst : o.dst = some d) {j dj : Nat} {want : Bool} {oj : Oper} (hg : o.guard = some (j, want)) (hj : ops[j]? = some oj) (hdj : oj.dst = some dj) (hlk : look F dj = some (.bool want)) (hlt : d < n) (v : Value) (y : ∀ x, S x → Yd P n F o x v)
    (h : ∀ a', Fr n ((d, v) :: F) a' → wpPlanU P ops Q hd loud rest S a' w) : wpPlanU P ops Q hd loud (i :: rest) S a w := by
  refine pu_q ho hl (by rw [wanted_of hF hg hj hdj hlk]; simp) v (fun x hx => y x hx a hF) ?_
  rw [hdst]
  exact h _ (hF.put hlt)
/-- a loud operation that only yields (in the tail) -/
theorem vu_ly (hF : Fr n F a) (ho : ops[i]? = some o) (hl : loud.contains i = true) (hdst : o.dst = some d) (hg : o.guard = none) (hlt : d < n) (v : Value) (y : Yd P n F o w v) (hS : i < hd → S w)
    (h : ∀ a', Fr n ((d, v) :: F) a' → wpPlanU P ops Q hd loud rest S a' w) : wpPlanU P ops Q hd loud (i :: rest) S a w := by
  refine pu_l ho hl (by simp [Region.wanted, hg]) (fun K hK => ?_)
  unfold Oper.wp
  rw [y a hF, Oper.upon_value, hdst]
  exact hK _ _ hS (h _ (hF.put hlt))
theorem vu_l (ho : ops[i]? = some o) (hl : loud.contains i = true) (hg : o.guard = none)
    (h : ∀ K : Act → World → Prop, (∀ a' w', (i < hd → S w') → wpPlanU P ops Q hd loud rest S a' w' → K a' w') → o.wp P a w K Q) : wpPlanU P ops Q hd loud (i :: rest) S a w :=
  pu_l ho hl (by simp [Region.wanted, hg]) h
theorem vu_lg (hF : Fr n F a) (ho : ops[i]? = some o) (hl : loud.contains i = true) {j dj : Nat} {want : Bool} {oj : Oper} (hg : o.guard = some (j, want)) (hj : ops[j]? = some oj) (hdj : oj.dst = some dj) (hlk : look F dj = some (.bool want))
    (h : ∀ K : Act → World → Prop, (∀ a' w', (i < hd → S w') → wpPlanU P ops Q hd loud rest S a' w' → K a' w') → o.wp P a w K Q) : wpPlanU P ops Q hd loud (i :: rest) S a w :=
  pu_l ho hl (by rw [wanted_of hF hg hj hdj hlk]; simp) h
end
end Go.Dk
