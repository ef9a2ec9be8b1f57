/- Regions that draw their order where two loud operations may come in either order: a plan that forks. Plain lemmas over the model; no program. -/
import Derived.Test.YtepbmdlgdaedpaaGreatDoorVs
namespace Go.Dk
open Go Go.RowKit
inductive PT where
  | done
  | op (i : Nat) (r : PT)
  | fork (i j : Nat) (ri rj : PT)
def PT.all (p : Nat → Bool) : PT → Bool
  | .done => true
  | .op i r => p i && r.all p
  | .fork i j ri rj => p i && p j && ri.all p && rj.all p
section
variable {P : Program} {ops : Array Oper} {Q : Exit → Act → World → Prop} {md : Region.Mode} {S : World → Prop} {n : Nat}
end
section
variable {P : Program} {Q : Exit → Act → World → Prop} {w w0 : World} {n : Nat} {F : List (Nat × Value)} {a : Act}
variable {ops : Array Oper} {S : World → Prop} {hd : Nat} {loud : List Nat} {rest ri rj : PT} {i j : Nat} {o o' : Oper} {d : Nat}
end
end Go.Dk
