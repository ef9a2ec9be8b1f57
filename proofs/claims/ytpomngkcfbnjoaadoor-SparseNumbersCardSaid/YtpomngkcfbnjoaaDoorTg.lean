/- Plans that fork, of operations that wait for others. Plain lemmas over the model; no program. -/
import Derived.Test.YtpomngkcfbnjoaaDoorTwo
namespace Go.Dk
open Go Go.RowKit
section
variable {P : Program} {Q : Exit → Act → World → Prop} {w w0 : World} {n : Nat} {F : List (Nat × Value)} {a : Act}
variable {ops : Array Oper} {S : World → Prop} {hd : Nat} {loud : List Nat} {rest ri rj : PT} {i j : Nat} {o o' : Oper} {d : Nat}
theorem vt_lg (hF : Fr n F a) (ho : ops[i]? = some o) (hl : loud.contains i = true) {gi dg : Nat} {want : Bool} {og : Oper} (hg : o.guard = some (gi, want)) (hgo : ops[gi]? = some og) (hdg : og.dst = some dg) (hlk : look F dg = some (.bool want))
    (h : ∀ K : Act → World → Prop, (∀ a' w', (i < hd → S w') → wpPT P ops Q S hd loud rest a' w' → K a' w') → o.wp P a w K Q) : wpPT P ops Q S hd loud (.op i rest) a w :=
  pt_l ho hl (by rw [wanted_of hF hg hgo hdg hlk]; simp) h
theorem vt_forkg (hF : Fr n F a) (ho : ops[i]? = some o) (ho' : ops[j]? = some o') {gi dg gj dh : Nat} {want want' : Bool} {og oh : Oper} (hg : o.guard = some (gi, want)) (hgo : ops[gi]? = some og) (hdg : og.dst = some dg) (hlk : look F dg = some (.bool want))
    (hg' : o'.guard = some (gj, want')) (hgo' : ops[gj]? = some oh) (hdg' : oh.dst = some dh) (hlk' : look F dh = some (.bool want'))
    (h : ∀ K : Act → World → Prop, (∀ a' w', S w' → wpPT P ops Q S hd loud ri a' w' → K a' w') → o.wp P a w K Q)
    (h' : ∀ K : Act → World → Prop, (∀ a' w', S w' → wpPT P ops Q S hd loud rj a' w' → K a' w') → o'.wp P a w K Q) : wpPT P ops Q S hd loud (.fork i j ri rj) a w := by
  have hw : Region.wanted o (yielded ops a.tmps) = true := by rw [wanted_of hF hg hgo hdg hlk]; simp
  have hw' : Region.wanted o' (yielded ops a.tmps) = true := by rw [wanted_of hF hg' hgo' hdg' hlk']; simp
  simp only [wpPT, wpOp, ho, ho', hw, hw', if_true]
  exact ⟨.inl (h _ (fun _ _ h1 h2 => ⟨h1, h2⟩)), .inl (h' _ (fun _ _ h1 h2 => ⟨h1, h2⟩))⟩
end
end Go.Dk
