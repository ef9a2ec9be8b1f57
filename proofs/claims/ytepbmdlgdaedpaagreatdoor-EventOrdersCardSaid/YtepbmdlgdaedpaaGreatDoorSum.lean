/- Texts that belong together, one behind the other. -/
import Derived.Test.YtepbmdlgdaedpaaGreatDoorTake
import Derived.Test.YtepbmdlgdaedpaaGreatDoorRows
import Derived.Test.YtepbmdlgdaedpaaGreatDoorRegion
namespace Go.Proofs.YtepbmdlgdaedpaaGreatDoor
open Go.RowKit Go.Dk
theorem Tab.at_ {w0 w:World} {L:List Row} (h:Tab w0) (hA:At w0 L w) (hn:2 ∉ L.map (·.1)):Tab w:=fun i hi=>by
  rw [hA.old h.lt hn]; exact h i hi
end Go.Proofs.YtepbmdlgdaedpaaGreatDoor
namespace Go.Proofs.YtepbmdlgdaedpaaGreatDoor
open Go.RowKit Go.Dk
theorem kE (k n:Nat):(be k n).length=k:=by simp [be]
theorem GI {k n i:Nat} (h:i<k):(be k n)[i]? = some (UInt8.ofNat (n/256 ^ (k-1-i))):=by simp [be,h]
theorem flat_at (st:List Nat) (i j:Nat) (hi:i<st.length) (hj:j<4):(st.flatMap (be 4))[4*i+j]? = some (UInt8.ofNat (wAt st i/256 ^ (3-j))):=by
  induction st generalizing i with
  | nil=>cases hi
  | cons a t ih =>
    rw [List.flatMap_cons]
    cases i with
    | zero=>rw [List.getElem?_append_left (by rw [kE]; omega),GI ag]; simp [wAt]
    | succ i =>
      rw [List.getElem?_append_right (by rw [kE]; omega),kE,show 4*(i+1)+j-4=4*i+j by omega,ih i (by simpa using hi)]
      simp [wAt]
end Go.Proofs.YtepbmdlgdaedpaaGreatDoor
