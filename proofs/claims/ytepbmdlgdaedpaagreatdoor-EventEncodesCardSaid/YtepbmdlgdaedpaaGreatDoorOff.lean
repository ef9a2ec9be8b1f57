/- Texts that belong together, one behind the other. -/
import Derived.Test.YtepbmdlgdaedpaaGreatDoorTwo
import Derived.Lib.ConvBytes
import Derived.Laws.Cover3
import Derived.LaidEqlPtr
namespace Go.Dk
open Go Go.RowKit
section
variable {P:Program} {Q:Exit→Act→World→Prop} {w w0:World} {n:Nat} {F:List (Nat × Value)} {a:Act}
variable {o:Oper} {d:Nat} {K:Act→World→Prop} {L:List Row} {t e:TypeId} {x y z:Operand} {u1 u2 u3:Value}
theorem Gx (hF:Fr n F a) (hd:o.dst=some d) (hlt:d<n) (ho:o.op= .buildSlice t 1 #[(0,x)]) (hA:At w0 L w) (hx:ev F x=some u1)
    (hr:∀ w:World,(Instr.buildSlice t 1 #[(0,u1)]).run P w= .ok (.slice (some ⟨w.heap.size,0,none⟩) 1 1) (w.alloc (.cells #[u1] e)))
    (h:∀ g w' a',w.heap.size≤g→Fr n ((d,.slice (some ⟨g,0,none⟩) 1 1)::F) a'→At w0 ((g,e,[u1])::L) w'→K a' w'):o.wp P a w K Q :=
  Ag ho hA (by simpa [hF.ev hx] using hr w) (fun g w' hg hw=>by rw [hd]; exact h g w' _ hg (hF.put hlt) hw)
end
end Go.Dk
namespace Go.Dk
open Go Go.RowKit
def OwnP (w0:World) (e:TypeId) (size:Nat) (X:List Row) (v:Value) (n:Nat) (W:List Value):Prop :=
  W.length=n*size∧((v= .slice none 0 0∧n=0∧X=[])∨∃ g c B Z,v= .slice (some ⟨g,B.length,none⟩) n c∧n≤c∧w0.heap.size≤g∧Z.length=(c-n)*size∧X=[(g,e,B++W++Z)])
section
variable {P:Program} {Q:Exit→Act→World→Prop} {w w0:World} {n:Nat} {F:List (Nat × Value)} {a:Act} {o:Oper} {d:Nat} {R X:List Row} {e:TypeId} {size m:Nat} {v:Value} {W:List Value}
theorem OwnP.nil (w0:World) (e:TypeId) (size:Nat):OwnP w0 e size [] (.slice none 0 0) 0 []:=⟨by simp,.inl ⟨rfl,rfl,rfl⟩⟩
theorem OwnP.slice (h:OwnP w0 e size X v m W):∃ A c,v= .slice A m c∧m≤c:=by
  rcases h.2 with ⟨h1,h2,_⟩ | ⟨g,c,_,_,h1,h2,_⟩
  · subst h2; exact ⟨_,_,h1,JH _⟩
  · exact ⟨_,_,h1,h2⟩
theorem OwnP.one (h:OwnP w0 e size X v m W):v.oneCell'=true:=by
  obtain ⟨A,c,rfl,_⟩:=h.slice
  rfl
theorem OwnP.new (h:OwnP w0 e size X v m W):∀ r∈X,w0.heap.size≤(r:Row).1:=by
  rcases h.2 with ⟨_,_,h3⟩ | ⟨g,c,_,_,_,_,h3,_,h5⟩
  · rw [h3]; intro r hr; cases hr
  · rw [h5]; intro r hr; simp only [List.mem_cons,List.not_mem_nil,or_false] at hr; subst hr; exact h3
theorem OwnP.tail {u:Value} (h:OwnP w0 e 1 X v (m+1) (u::W)):∃ g c o,v= .slice (some ⟨g,o,none⟩) (m+1) (c+1)∧OwnP w0 e 1 X (.slice (some ⟨g,o+1,none⟩) m c) m W:=by
  rcases h.2 with ⟨_,h2,_⟩ | ⟨g,c,B,Z,h1,h2,h3,h4,h5⟩
  · omega
  · obtain ⟨c',rfl⟩:∃ c',c=c'+1:=⟨c-1,ag⟩
    refine ⟨g,c',B.length,h1,?_,.inr ⟨g,c',B++[u],Z,by simp,ag,h3,ag,by rw [h5]; simp⟩⟩
    have:=h.1
    simp only [List.length_cons] at this
    omega
end
end Go.Dk
