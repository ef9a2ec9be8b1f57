/- Further rules of plans. Plain lemmas over the model; no program. -/
import Derived.Test.YthphfbohhbkdgaaHs
namespace Go.Dk
open Go Go.RowKit
section
variable {P : Program} {Q : Exit → Act → World → Prop} {w : World} {n : Nat} {F : List (Nat × Value)} {a : Act}
variable {ops : Array Oper} {S : World → Prop} {hd : Nat} {loud rest : List Nat} {i : Nat} {o : Oper} {d : Nat}
theorem vp_lyg (hF : Fr n F a) (ho : ops[i]? = some o) (hl : loud.contains i = true) (hdst : o.dst = some d) {j dj : Nat} {want : Bool} {oj : Oper} (hg : o.guard = some (j, want)) (hj : ops[j]? = some oj) (hdj : oj.dst = some dj) (hlk : look F dj = some (.bool want)) (hlt : d < n) (v : Value) (y : Yd P n F o w v) (hS : i < hd → S w)
    (h : ∀ a', Fr n ((d, v) :: F) a' → wpPlan P ops Q S hd loud rest a' w) : wpPlan P ops Q S hd loud (i :: rest) a w := by
  refine plan_l ho hl (by rw [wanted_of hF hg hj hdj hlk]; simp) (fun K hK => ?_)
  unfold Oper.wp
  rw [y a hF, Oper.upon_value, hdst]
  exact hK _ _ hS (h _ (hF.put hlt))
end
end Go.Dk
