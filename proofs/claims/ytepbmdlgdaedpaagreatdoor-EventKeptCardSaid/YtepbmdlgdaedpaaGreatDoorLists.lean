/- Texts that belong together, one behind the other. -/
import Derived.Test.YtepbmdlgdaedpaaGreatDoorOf
import Derived.Test.YtepbmdlgdaedpaaGreatDoorOwn
import Derived.Test.YtepbmdlgdaedpaaGreatDoorRegion
import Derived.Test.YtepbmdlgdaedpaaGreatDoorRows
import Derived.Laws.BitsAllLaws
import Derived.Great.BuildSlice
import Derived.Lib.SlBytesConst
namespace Go.Proofs.YtepbmdlgdaedpaaGreatDoor
open Go.RowKit Go.Dk
section
variable {P:Program} {ops:Array Oper} {Q:Exit→Act→World→Prop} {a:Act} {w0 w:World} {L:List Row} {rest:List Oper} {o:Oper}
end
def known:ByteArray:={ data := #[52,52,57,52,55,48,53,55,54,50,55,53,51,48,49,55,49,48,100,101,97,53,49,54,54,50,100,98,56,55,99,98,50,101,52,51,51,51,100,50,57,100,102,97,50,51,101,48,98,55,48,101,98,51,55,55,49,57,56,98,52,102,53,98] }
end Go.Proofs.YtepbmdlgdaedpaaGreatDoor
namespace Go.Proofs.YtepbmdlgdaedpaaGreatDoor
open Go.RowKit Go.Dk
@[irreducible] def lit0:List UInt8:=[116,104,101,32,116,104,105,114,100,32,99,97,115,101,32,111,102,32,116,104,101,32,100,111,99,107,101,116]
theorem Nb:28=lit0.length:=af
@[irreducible] def lit1:List UInt8:=[97,32,100,111,99,107,101,116,32,105,115,32,114,101,97,100,32,102,114,111,109,32,105,116,115,32,102,105,114,115,116,32,101,118,101,110,116,32,116,111,32,105,116,115,32,108,97,115,116,44,32,116,119,105,99,101]
theorem len1:56=lit1.length:=af
@[irreducible] def lit2:List UInt8:=[99,108,101,114,107]
theorem Nj:5=lit2.length:=af
@[irreducible] def lit3:List UInt8:=[104,101,97,100,32,49,50]
theorem Nh:7=lit3.length:=af
@[irreducible] def lit4:List UInt8:=[99,97,115,101]
theorem Nc:4=lit4.length:=af
end Go.Proofs.YtepbmdlgdaedpaaGreatDoor
namespace Go.Proofs.YtepbmdlgdaedpaaGreatDoor
open Go.RowKit Go.Dk
def Pieces (w:World) (pa:Option Addr) (ps:List Part):Prop :=
  (ps≠[]→∃ b o,pa=some ⟨b,o,none⟩∧b<w.heap.size∧∀ i A c l,ps[i]? = some (A,c,l)→w.cell? ⟨b,o+i,none⟩=some (.slice A l.length c)) ∧
  ∀ A c l,(A,c,l)∈ps→l.length≤c∧Bts w A l
end Go.Proofs.YtepbmdlgdaedpaaGreatDoor
