/- Texts that belong together, one behind the other. -/
import Derived.Test.YtepbmdlgdaedpaaGreatDoorOf
import Derived.Test.YtepbmdlgdaedpaaGreatDoorTake
import Derived.Test.YtepbmdlgdaedpaaGreatDoorVc
import Derived.Test.YtepbmdlgdaedpaaGreatDoorVs
import Derived.Test.YtepbmdlgdaedpaaGreatDoorLists
import Derived.Test.YtepbmdlgdaedpaaGreatDoorMore
import Derived.Test.YtepbmdlgdaedpaaGreatDoorSum
import Derived.Test.YtepbmdlgdaedpaaGreatDoorOctetW
import Derived.Test.YtepbmdlgdaedpaaGreatDoorMap
namespace Go.Proofs.YtepbmdlgdaedpaaGreatDoor
open Go.RowKit Go.Dk
theorem Pieces.nil (w:World):Pieces w none []:=⟨fun h=>absurd rfl h,fun _ _ _ h=>by cases h⟩
theorem Pieces.row {w0 w:World} {L:List Row} {g k:Nat} {t:TypeId} {ps:List Part} (hA:At w0 L w) (hk:L[k]? = some (g,t,ps.map fun p=>Value.slice p.1 p.2.2.length p.2.1)) (hp:∀ A c l,(A,c,l)∈ps→l.length≤c∧Bts w A l):Pieces w (some ⟨g,0,none⟩) ps:=by
  refine ⟨fun _=>⟨g,0,rfl,hA.lt hk,fun i A c l hi=>?_⟩,hp⟩
  rw [Nat.zero_add,hA.cell hk,List.getElem?_map,hi]
  rfl
end Go.Proofs.YtepbmdlgdaedpaaGreatDoor
namespace Go.Proofs.YtepbmdlgdaedpaaGreatDoor
open Go.RowKit Go.Dk
theorem Wr.drew {w0:World} {wb:Nat} {R X:List Row} {v:Value} {l:List UInt8} {w:World} (h:Wr w0 wb R X v l w):Wr w0 wb R X v l w.drew:=⟨h.1,h.2.drew⟩
end Go.Proofs.YtepbmdlgdaedpaaGreatDoor
