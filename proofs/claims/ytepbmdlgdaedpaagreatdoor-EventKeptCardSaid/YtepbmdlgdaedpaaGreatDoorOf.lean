/- Texts that belong together, one behind the other. -/
import Derived.Test.YtepbmdlgdaedpaaGreatDoorSum
import Derived.Test.YtepbmdlgdaedpaaGreatDoorOwn
import Derived.Test.YtepbmdlgdaedpaaGreatDoorRegion
import Derived.Test.YtepbmdlgdaedpaaGreatDoorRows
import Derived.Laws.BitsAllLaws
namespace Go.Proofs.YtepbmdlgdaedpaaGreatDoor
open Go.RowKit Go.Dk
def In (w:World) (A:Option Addr):Prop:=∀ ad,A=some ad→ad.block<w.heap.size
theorem In.size {w w':World} {A:Option Addr} (h:In w A) (hs:w.heap.size≤w'.heap.size):In w' A:=fun ad he=>Nat.lt_of_lt_of_le (h ad he) hs
theorem In.off {w:World} {A:Option Addr} {g:Nat} (h:In w A) (hg:w.heap.size≤g):Off A g:=fun ad he=>by have:=h ad he; omega
end Go.Proofs.YtepbmdlgdaedpaaGreatDoor
namespace Go.Proofs.YtepbmdlgdaedpaaGreatDoor
open Go.RowKit Go.Dk
def kept (m:Int):Nat:=(min (max m 1) 32).toNat
def MX (D:List UInt8) (m:Int):List UInt8:=D.take (kept m)++List.replicate (32-kept m) 0
theorem dc_take (D:List UInt8) (X:List Value) (h:X=dc D) (hD:D.length=32):((X.drop 0).take 32).toArray=(dc D).toArray:=by
  subst h
  rw [List.drop_zero,Ny (by simp [dc,hD])]
end Go.Proofs.YtepbmdlgdaedpaaGreatDoor
namespace Go.Proofs.YtepbmdlgdaedpaaGreatDoor
open Go.RowKit Go.Dk
abbrev Part:=Option Addr × Nat × List UInt8
end Go.Proofs.YtepbmdlgdaedpaaGreatDoor
