/- Texts that belong together, one behind the other. -/
import Derived.Test.YtepbmdlgdaedpaaGreatDoorHs
import Derived.Laws.StructEq
import Derived.Stop.BytesEq
import Derived.Test.YtepbmdlgdaedpaaGreatDoorR3
import Derived.Test.YtepbmdlgdaedpaaGreatDoorR2
import Derived.Test.YtepbmdlgdaedpaaGreatDoorEv6
import Derived.Test.YtepbmdlgdaedpaaGreatDoorEvW
import Derived.Test.YtepbmdlgdaedpaaGreatDoorEv9
namespace Go.Dk
open Go Go.RowKit
section
variable {P:Program} {w:World} {n:Nat} {F:List (Nat × Value)} {o:Oper} {t t' e ti:TypeId} {x y:Operand} {v:Value}
end
section
variable {e:TypeId} {X:Seg} {v:Value} {A:Option Addr} {z m n i c k:Nat} {W B Z V:List Value}
theorem Buf.cut (h:Buf e z X (.slice A m c) m W) (hn:n≤m):Buf e z X (.slice A n c) n (W.take (n*z)):=by
  have hW:=h.1
  obtain ⟨d,rfl⟩:∃ d,m=n+d:=⟨m-n,ag⟩
  rw [Nat.add_mul] at hW
  refine ⟨by rw [List.length_take,hW]; omega,?_⟩
  rcases h.2 with ⟨h1,h2,h3⟩ | ⟨g,c',B,Z,h1,h2,h3,h4⟩
  · injection h1 with e1 e2 e3
    subst e1 e3
    exact .inl ⟨by rw [show n=0 by omega],ag,h3⟩
  · injection h1 with e1 e2 e3
    subst e1 e3
    obtain ⟨f,rfl⟩:∃ f,c=n+d+f:=⟨c-(n+d),ag⟩
    refine .inr ⟨g,_,B,W.drop (n*z)++Z,rfl,ag,?_,?_⟩
    · rw [show n+d+f-(n+d)=f by omega] at h3
      rw [List.length_append,List.length_drop,hW,h3,show n+d+f-n=d+f by omega,Nat.add_mul]
      omega
    · rw [h4]
      simp only [List.append_assoc,List.append_cancel_left_eq,List.cons.injEq,and_true]
      congr 2
      rw [← List.append_assoc (W.take _),List.take_append_drop]
theorem yO (h:k+V.length≤W.length):splice (B++W++Z) (B.length+k) V=B++splice W k V++Z:=by
  unfold splice
  have e1:B.take (B.length+k)=B:=JO ag
  rw [List.append_assoc B W Z,List.take_append,e1,Nat.add_sub_cancel_left,List.take_append_of_le_length ag,Nat.add_assoc,← List.drop_drop,List.drop_left,List.drop_append_of_le_length h]
  simp [List.append_assoc]
theorem Buf.setRow (h:Buf e z X v m W) (hi:i<m) (hV:V.length=z):∃ g B Z c,v= .slice (some ⟨g,B.length,none⟩) m c∧X=[row g e (B++W++Z)]∧W.length=m*z∧i*z+z≤m*z∧Buf e z [row g e (splice (B++W++Z) (B.length+i*z) V)] v m (splice W (i*z) V):=by
  have hW:=h.1
  have hle:i*z+z≤m*z:=by have:=Nat.mul_le_mul_right z (show i+1≤m by omega); rwa [Nat.add_mul,Nat.one_mul] at this
  rcases h.2 with ⟨_,h2,_⟩ | ⟨g,c,B,Z,h1,h2,h3,h4⟩
  · omega
  · refine ⟨g,B,Z,c,h1,h4,hW,hle,?_,.inr ⟨g,c,B,Z,h1,h2,h3,?_⟩⟩
    · unfold splice
      rw [List.length_append,List.length_append,List.length_take,List.length_drop,hV]
      omega
    · rw [yO (by rw [hV,hW]; exact hle)]
end
section
variable {P:Program} {w w0:World} {n:Nat} {F:List (Nat × Value)} {a:Act} {L:List Row} {R:List Seg}
end
structure TxX where
  v:Value
  l:List UInt8
  X:Seg
def TxX.Ok (w0:World) (t:TxX):Prop:=∃ A c,t.v= .slice A t.l.length c∧Rd w0 [t.X] A t.l
end Go.Dk
namespace Go.Proofs.YtepbmdlgdaedpaaGreatDoor
open Go.RowKit Go.Dk
theorem nT {cs:List Value} {k:Nat} {u:Value} (h:k<cs.length):splice cs k [u]=cs.set k u:=by
  unfold splice
  rw [List.set_eq_take_append_cons_drop,if_pos h,List.append_assoc]
  rfl
theorem F8 {e:TypeId} {X:Seg} {v:Value} {m i:Nat} {W:List Value} (h:Buf e 1 X v m W) (hi:i<m) (u:Value):∃ g B Z c,v= .slice (some ⟨g,B.length,none⟩) m c∧X=[row g e (B++W++Z)]∧m≤c∧Buf e 1 [row g e ((B++W++Z).set (B.length+i) u)] (.slice (some ⟨g,B.length,none⟩) m c) m (W.set i u):=by
  obtain ⟨g,B,Z,c,hv,hX,hW,hle,hb⟩:=h.setRow (V:=[u]) hi rfl
  obtain ⟨A0,c0,hv0,hmc⟩:=h.slice
  rw [hv] at hv0
  injection hv0 with _ _ hcc
  rw [Nat.mul_one] at hb
  rw [nT (by rw [List.length_append,List.length_append,hW]; omega),nT (by rw [hW]; omega),hv] at hb
  exact ⟨g,B,Z,c,hv,hX,by rw [hcc]; exact hmc,hb⟩
end Go.Proofs.YtepbmdlgdaedpaaGreatDoor
