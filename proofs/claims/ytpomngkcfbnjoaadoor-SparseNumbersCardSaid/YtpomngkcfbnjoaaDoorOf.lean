/- The walks of Of, Leaf, Branch, Empty. -/
import Derived.Test.YtpomngkcfbnjoaaDoorDigest
import Derived.Test.YtpomngkcfbnjoaaDoorCut
namespace Go.Proofs.YtpomngkcfbnjoaaDoor
open Go.RowKit Go.Dk

abbrev Part := Option Addr × Nat × List UInt8
def flat (ps : List Part) : List UInt8 := ps.flatMap (·.2.2)
theorem flat_take {ps : List Part} {i : Nat} {A : Option Addr} {c : Nat} {l : List UInt8} (h : ps[i]? = some (A, c, l)) : flat (ps.take (i + 1)) = flat (ps.take i) ++ l := by
  unfold flat
  rw [List.take_add_one, h]
  simp
theorem flat_le {ps : List Part} {i : Nat} {A : Option Addr} {c : Nat} {l : List UInt8} (h : ps[i]? = some (A, c, l)) : (flat (ps.take i)).length + l.length ≤ (flat ps).length := by
  have h1 := congrArg List.length (flat_take h)
  have h2 : flat ps = flat (ps.take (i + 1)) ++ flat (ps.drop (i + 1)) := by
    unfold flat; rw [← List.flatMap_append, List.take_append_drop]
  rw [h2, List.length_append, h1, List.length_append]
  omega
theorem build_byte (d : Int) (w : World) : (Instr.buildSlice 59 1 #[(0, .int .u8 d)]).run Tryd.prog w = .ok (.slice (some ⟨w.heap.size, 0, none⟩) 1 1) (w.alloc (.cells #[.int .u8 d] 5)) := by kernel_rfl
theorem off_some {b o g : Nat} (h : b ≠ g) : Off (some ⟨b, o, none⟩) g := fun ad he => by cases he; exact h
theorem no24 : notRow Tryd.prog 59 = true := by kernel_rfl

end Go.Proofs.YtpomngkcfbnjoaaDoor
