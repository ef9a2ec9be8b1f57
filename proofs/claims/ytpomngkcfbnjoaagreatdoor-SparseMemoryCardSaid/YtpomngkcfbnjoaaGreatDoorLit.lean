/- Texts that belong together, one behind the other. -/
import Derived.Test.YtpomngkcfbnjoaaGreatDoorDigest
import Derived.Test.YtpomngkcfbnjoaaGreatDoorCut
import Derived.Great.BuildSlice
import Derived.Lib.SlBytesConst
namespace Go.Proofs.YtpomngkcfbnjoaaGreatDoor
open Go.RowKit Go.Dk
abbrev Part:=Option Addr × Nat × List UInt8
def flat (ps:List Part):List UInt8:=ps.flatMap (·.2.2)
theorem um {ps:List Part} {i:Nat} {A:Option Addr} {c:Nat} {l:List UInt8} (h:ps[i]? = some (A,c,l)):flat (ps.take (i+1))=flat (ps.take i)++l:=by
  unfold flat
  rw [List.take_add_one,h]
  simp
theorem GI {ps:List Part} {i:Nat} {A:Option Addr} {c:Nat} {l:List UInt8} (h:ps[i]? = some (A,c,l)):(flat (ps.take i)).length+l.length≤(flat ps).length:=by
  have h1:=congrArg List.length (um h)
  have h2:flat ps=flat (ps.take (i+1))++flat (ps.drop (i+1)):=by
    unfold flat; rw [← List.flatMap_append,List.take_append_drop]
  rw [h2,List.length_append,h1,List.length_append]
  omega
theorem x8 (d:Int) (w:World):(Instr.buildSlice 70 1 #[(0,.int .u8 d)]).run Tryz.prog w= .ok (.slice (some ⟨w.heap.size,0,none⟩) 1 1) (w.alloc (.cells #[.int .u8 d] 5)):=af
theorem LW {b o g:Nat} (h:b≠g):Off (some ⟨b,o,none⟩) g:=fun ad he=>by cases he; exact h
theorem SV:bW Tryz.prog 70=true:=af
end Go.Proofs.YtpomngkcfbnjoaaGreatDoor
namespace Go.Proofs.YtpomngkcfbnjoaaGreatDoor
open Go.RowKit Go.Dk
def ik (width:Int) (X Y:List UInt8):List UInt8:=gZ (sha (4::(X++Y))) width
def aK (width:Int):Nat→List UInt8
  | 0=>gZ (sha [5]) width
  | k+1=>ik width (aK width k) (aK width k)
theorem bZ (width:Int) (k:Nat):(aK width k).length=32:=by cases k <;> exact dJ _ _ (dH _)
end Go.Proofs.YtpomngkcfbnjoaaGreatDoor
namespace Go.Proofs.YtpomngkcfbnjoaaGreatDoor
open Go.RowKit Go.Dk
section
variable {P:Program} {ops:Array Oper} {Q:Exit→Act→World→Prop} {a:Act} {w0 w:World} {L:List Row} {rest:List Oper} {o:Oper}
end
def known:ByteArray:={ data := #[52,52,57,52,55,48,53,55,54,50,55,53,51,48,49,55,49,48,100,101,97,53,49,54,54,50,100,98,56,55,99,98,50,101,52,51,51,51,100,50,57,100,102,97,50,51,101,48,98,55,48,101,98,51,55,55,49,57,56,98,52,102,53,98] }
end Go.Proofs.YtpomngkcfbnjoaaGreatDoor
