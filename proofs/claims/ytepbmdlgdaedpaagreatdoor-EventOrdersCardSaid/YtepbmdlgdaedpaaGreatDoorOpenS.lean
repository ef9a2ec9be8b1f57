/- Texts that belong together, one behind the other. -/
import Derived.Test.YtepbmdlgdaedpaaGreatDoorMem
import Derived.OpenShut
import Derived.ShutString
import Derived.ChangeOld
import Derived.Test.YtepbmdlgdaedpaaGreatDoorBytes
import Derived.ChangeSlices
import Derived.SizedLaws
import Derived.Deep.Slices
namespace Go.Dk
open Go Go.ChangeShapes Go.WideShapes Go.ChangeAt Go.RowKit
section
variable {H:Type} {enc:TypeId × Value→H} {P:Program} {w:World} {base:Nat} {spare:Nat→Bool} {held:Bool} {t e:TypeId} {v:Value} {d:DataW H} {p:List MemPlace} {r:Reach} {b0:Nat}
def byteOf:Value→UInt8
  | .int _ n=>UInt8.ofNat n.toNat
  | _=>0
theorem yI {n:Int} (h:(Lit.int .u8 n).wf=true):Value.int .u8 ((byteOf (.int .u8 n)).toNat:Int)= .int .u8 n:=by
  have hb:0≤n∧n≤255:=by simpa [Lit.wf,IntKind.min,IntKind.max,IntKind.signed,IntKind.bits] using h
  simp only [byteOf,UInt8.toNat_ofNat']
  congr 1
  omega
end
end Go.Dk
namespace Go.Dk
open Go Go.ChangeShapes Go.WideShapes Go.ChangeAt Go.RowKit Go.Deep
section
variable {H:Type} {enc:TypeId × Value→H} {P:Program} {w:World} {held:Bool} {t e:TypeId} {v:Value} {d:DataW H} {p:List MemPlace}
theorem vK {a:Addr} {i:Nat} {u:Value} (h:w.cell? (a.add i)=some u) (hi:i=0):a=⟨a.block,a.off,none⟩:=by
  subst hi
  obtain ⟨b,o,s⟩:=a
  have hs:s=none:=by simpa [Addr.add] using World.cell?_spot h
  subst hs
  rfl
theorem block_lt_of_cell {ad:Addr} {u:Value} (h:w.cell? ad=some u):ad.block<w.heap.size:=by
  unfold World.cell? at h
  rcases Nat.lt_or_ge ad.block w.heap.size with h1 | h1
  · exact h1
  · rw [Array.getElem?_eq_none h1] at h; simp at h
theorem nM {r:Reach} {b0:Nat} {k:IntKind} (ht:P.underlying t=some (.int k)) (hv:Value.okWide P w r b0 t v) (h:DataW.Trod enc P w 0 (fun _=>true) held t v d p):∃ n:Int,v= .int k n∧k.min≤n∧n≤k.max:=by
  cases v <;> simp_all [Value.okWide,Cell.okWide,Cell.ok,IntKind.has]
end
end Go.Dk
