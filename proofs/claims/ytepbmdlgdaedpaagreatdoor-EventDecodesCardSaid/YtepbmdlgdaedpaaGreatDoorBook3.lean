/- Texts that belong together, one behind the other. -/
import Derived.Test.YtepbmdlgdaedpaaGreatDoorOctetS
import Derived.Test.YtepbmdlgdaedpaaGreatDoorRf
namespace Go.Proofs.YtepbmdlgdaedpaaGreatDoor
open Go.RowKit Go.Dk
def chunks (k:Nat) (r:List UInt8):List (List UInt8):=(List.range k).map fun i=>(r.drop (32*i)).take 32
def fQ (r:List UInt8) (n:Int):Res (List (List UInt8)):=if n<0∨((r.length/32:Nat):Int)<n then .no 8 else .ok (chunks n.toNat r) (32*n.toNat)
theorem qV (k:Nat) (r:List UInt8):(chunks k r).length=k:=by simp [chunks]
theorem wU {ds:List (List UInt8)} (h:∀ d∈ds,d.length=32):(oz ds).length=ds.length*32:=by
  have h1:=qm (z:=32) (Ws:=ds.map dc) (fun V hV=>by obtain ⟨u,hu,rfl⟩:=List.mem_map.1 hV; rw [aP]; exact h u hu)
  rwa [List.length_map] at h1
end Go.Proofs.YtepbmdlgdaedpaaGreatDoor
namespace Go.Dk
open Go Go.RowKit
section
variable {w0 w:World} {R:List Seg} {e:TypeId} {v:Value} {m i:Nat} {W:List Value} {X:Seg} {XS:List Seg}
theorem IB {X:Seg} {R:List Seg} (h:X∈R):[X]⊆R:=fun _ hx=>by rw [List.mem_singleton] at hx; rw [hx]; exact h
end
end Go.Dk
