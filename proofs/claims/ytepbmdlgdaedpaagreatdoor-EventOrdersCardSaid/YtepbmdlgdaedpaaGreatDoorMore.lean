/- Texts that belong together, one behind the other. -/
import Derived.Test.YtepbmdlgdaedpaaGreatDoorVs
import Derived.Lib.ConvBytes
import Derived.Laws.Cover3
namespace Go.Dk
open Go Go.RowKit
inductive PT where
  | done
  | op (i:Nat) (r:PT)
  | fork (i j:Nat) (ri rj:PT)
def PT.all (p:Nat→Bool):PT→Bool
  | .done=>true
  | .op i r=>p i && r.all p
  | .fork i j ri rj=>p i && p j && ri.all p && rj.all p
section
variable {P:Program} {ops:Array Oper} {Q:Exit→Act→World→Prop} {md:Region.Mode} {S:World→Prop} {n:Nat}
end
section
variable {P:Program} {Q:Exit→Act→World→Prop} {w w0:World} {n:Nat} {F:List (Nat × Value)} {a:Act}
variable {ops:Array Oper} {S:World→Prop} {hd:Nat} {loud:List Nat} {rest ri rj:PT} {i j:Nat} {o o':Oper} {d:Nat}
end
end Go.Dk
namespace Go.Dk
open Go Go.RowKit
section
variable {P:Program} {Q:Exit→Act→World→Prop} {w w0:World} {n:Nat} {F:List (Nat × Value)} {a:Act}
variable {o:Oper} {d:Nat} {K:Act→World→Prop} {L:List Row} {t e:TypeId} {x y z:Operand} {u1 u2 u3:Value}
theorem EG (hF:Fr n F a) (hd:o.dst=some d) (hlt:d<n) (ho:o.op= .buildSlice t 1 #[(0,x)]) (hA:At w0 L w) (hx:ev F x=some u1)
    (hr:∀ w:World,(Instr.buildSlice t 1 #[(0,u1)]).run P w= .ok (.slice (some ⟨w.heap.size,0,none⟩) 1 1) (w.alloc (.cells #[u1] e)))
    (h:∀ g w' a',w.heap.size≤g→Fr n ((d,.slice (some ⟨g,0,none⟩) 1 1)::F) a'→At w0 ((g,e,[u1])::L) w'→K a' w'):o.wp P a w K Q :=
  yT ho hA (by simpa [hF.ev hx] using hr w) (fun g w' hg hw=>by rw [hd]; exact h g w' _ hg (hF.put hlt) hw)
end
end Go.Dk
