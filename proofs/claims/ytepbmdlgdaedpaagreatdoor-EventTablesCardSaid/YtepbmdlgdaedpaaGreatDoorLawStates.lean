/- Texts that belong together, one behind the other. -/
import Derived.Test.YtepbmdlgdaedpaaGreatDoorHs
import Derived.Laws.StructEq
import Derived.Stop.BytesEq
import Derived.Test.YtepbmdlgdaedpaaGreatDoorR1
import Derived.Test.YtepbmdlgdaedpaaGreatDoorOctetS
import Derived.Test.YtepbmdlgdaedpaaGreatDoorKb
import Derived.Test.YtepbmdlgdaedpaaGreatDoorHc
import Derived.Test.YtepbmdlgdaedpaaGreatDoorEv6
import Derived.Test.YtepbmdlgdaedpaaGreatDoorEvW
import Derived.Test.YtepbmdlgdaedpaaGreatDoorOpenR
import Derived.Test.YtepbmdlgdaedpaaGreatDoorMore
import Derived.Test.YtepbmdlgdaedpaaGreatDoorSl6
import Derived.Test.YtepbmdlgdaedpaaGreatDoorEv9
namespace Go.Dk
open Go Go.RowKit
section
variable {P:Program} {w:World} {n:Nat} {F:List (Nat × Value)} {o:Oper} {t t' e ti:TypeId} {x y:Operand} {v:Value}
end
section
variable {e:TypeId} {X:Seg} {v:Value} {A:Option Addr} {z m n i c k:Nat} {W B Z V:List Value}
theorem Buf.cut (h:Buf e z X (.slice A m c) m W) (hn:n≤m):Buf e z X (.slice A n c) n (W.take (n*z)):=by
  have hW:=h.1
  obtain ⟨d,rfl⟩:∃ d,m=n+d:=⟨m-n,ag⟩
  rw [Nat.add_mul] at hW
  refine ⟨by rw [List.length_take,hW]; omega,?_⟩
  rcases h.2 with ⟨h1,h2,h3⟩ | ⟨g,c',B,Z,h1,h2,h3,h4⟩
  · injection h1 with e1 e2 e3
    subst e1 e3
    exact .inl ⟨by rw [show n=0 by omega],ag,h3⟩
  · injection h1 with e1 e2 e3
    subst e1 e3
    obtain ⟨f,rfl⟩:∃ f,c=n+d+f:=⟨c-(n+d),ag⟩
    refine .inr ⟨g,_,B,W.drop (n*z)++Z,rfl,ag,?_,?_⟩
    · rw [show n+d+f-(n+d)=f by omega] at h3
      rw [List.length_append,List.length_drop,hW,h3,show n+d+f-n=d+f by omega,Nat.add_mul]
      omega
    · rw [h4]
      simp only [List.append_assoc,List.append_cancel_left_eq,List.cons.injEq,and_true]
      congr 2
      rw [← List.append_assoc (W.take _),List.take_append_drop]
theorem Ef (h:k+V.length≤W.length):splice (B++W++Z) (B.length+k) V=B++splice W k V++Z:=by
  unfold splice
  have e1:B.take (B.length+k)=B:=P8 ag
  rw [List.append_assoc B W Z,List.take_append,e1,Nat.add_sub_cancel_left,List.take_append_of_le_length ag,Nat.add_assoc,← List.drop_drop,List.drop_left,List.drop_append_of_le_length h]
  simp [List.append_assoc]
theorem Buf.setRow (h:Buf e z X v m W) (hi:i<m) (hV:V.length=z):∃ g B Z c,v= .slice (some ⟨g,B.length,none⟩) m c∧X=[row g e (B++W++Z)]∧W.length=m*z∧i*z+z≤m*z∧Buf e z [row g e (splice (B++W++Z) (B.length+i*z) V)] v m (splice W (i*z) V):=by
  have hW:=h.1
  have hle:i*z+z≤m*z:=by have:=Nat.mul_le_mul_right z (show i+1≤m by omega); rwa [Nat.add_mul,Nat.one_mul] at this
  rcases h.2 with ⟨_,h2,_⟩ | ⟨g,c,B,Z,h1,h2,h3,h4⟩
  · omega
  · refine ⟨g,B,Z,c,h1,h4,hW,hle,?_,.inr ⟨g,c,B,Z,h1,h2,h3,?_⟩⟩
    · unfold splice
      rw [List.length_append,List.length_append,List.length_take,List.length_drop,hV]
      omega
    · rw [Ef (by rw [hV,hW]; exact hle)]
end
section
variable {P:Program} {w w0:World} {n:Nat} {F:List (Nat × Value)} {a:Act} {L:List Row} {R:List Seg}
end
structure TxX where
  v:Value
  l:List UInt8
  X:Seg
def TxX.Ok (w0:World) (t:TxX):Prop:=∃ A c,t.v= .slice A t.l.length c∧Rd w0 [t.X] A t.l
end Go.Dk
namespace Go.Proofs.YtepbmdlgdaedpaaGreatDoor
open Go.RowKit Go.Dk
abbrev mkS:List UInt8:=[109,97,114,107]
abbrev G9:VA:=⟨⟨-77,0,[],[]⟩,none,0⟩
def MOk (w0:World) (M:Seg) (a:VA):Prop:=a.sC=a.v.s.length+80∧Rc w0 [M] a.sA (cel cS (a.v.s++List.replicate 80 mkS))∧a.v.s.length≤50000∧a.v.In
structure WE (w0:World) (gS gA gB:Nat) (M:Seg) (u:EA):Prop where
  vA:u.v.sA=some ⟨gS,0,none⟩
  vC:u.v.sC=u.v.v.s.length+80
  aA:u.aA=some ⟨gA,0,none⟩
  aC:u.aC=u.args.length+80
  bA:u.bA=some ⟨gB,0,none⟩
  bC:u.bC=u.src.length+80
  m:∀ a∈u.args,MOk w0 M a
  nS:u.v.v.s.length≤50000
  nA:u.args.length≤50000
  nB:u.src.length≤140737488351232
  i:u.ev.In
abbrev sgS (g:Nat) (u:EA):Seg:=[row g 9 (cel cS (u.v.v.s++List.replicate 80 mkS))]
abbrev sgA (g:Nat) (u:EA):Seg:=[row g 25 (cel VA.cells (u.args++List.replicate 80 G9))]
abbrev sgB (g:Nat) (u:EA):Seg:=[row g 5 (dc (u.src++List.replicate 80 219))]
theorem A8 {α:Type} {C:α→List Value} {w0:World} {R:List Seg} {A:Option Addr} {l m:List α} (h:Rc w0 R A (cel C (l++m))):Rc w0 R A (cel C l):=by
  have:=h.take (cel C l).length
  rwa [gp,List.take_left' rfl] at this
theorem MOk.ok {w0:World} {M:Seg} {a:VA} (h:MOk w0 M a):a.Ok w0 [M]:=⟨by rw [lW]; exact A8 h.2.1,by have:=h.2.2.1; omega,h.2.2.2⟩
theorem WE.rS {w0:World} {gS gA gB:Nat} {M:Seg} {u:EA} (h:WE w0 gS gA gB M u):Rc w0 [sgS gS u] u.v.sA (cel cS (u.v.v.s++List.replicate 80 mkS)):=by rw [h.vA]; exact Rc.ofRow (i:=0) (off:=0) rfl (by rw [List.drop_zero]; exact List.take_length ..)
theorem WE.rA {w0:World} {gS gA gB:Nat} {M:Seg} {u:EA} (h:WE w0 gS gA gB M u):Rc w0 [sgA gA u] u.aA (cel VA.cells (u.args++List.replicate 80 G9)):=by rw [h.aA]; exact Rc.ofRow (i:=0) (off:=0) rfl (by rw [List.drop_zero]; exact List.take_length ..)
theorem WE.rB {w0:World} {gS gA gB:Nat} {M:Seg} {u:EA} (h:WE w0 gS gA gB M u):Rd w0 [sgB gB u] u.bA (u.src++List.replicate 80 219):=by rw [h.bA]; exact Rc.ofRow (i:=0) (off:=0) rfl (by rw [List.drop_zero]; exact List.take_length ..)
abbrev WE.sg (gS gA gB:Nat) (M:Seg) (u:EA):List Seg:=[sgS gS u,sgA gA u,sgB gB u,M]
theorem WE.ok {w0:World} {gS gA gB:Nat} {M:Seg} {u:EA} (h:WE w0 gS gA gB M u):u.Ok w0 (WE.sg gS gA gB M u):=by
  have hm:∀ {X:Seg},X∈WE.sg gS gA gB M u→[X]⊆WE.sg gS gA gB M u:=fun hX=>List.cons_subset.2 ⟨hX,List.nil_subset _⟩
  have h1:=h.nS
  have h2:=h.nA
  have h3:=h.nB
  refine ⟨⟨?_,ag,h.i.2.2.2.1⟩,fun a ha=>(h.m a ha).ok.mono (hm (by simp)),(A8 h.rA).mono (hm (by simp)),ag,?_,ag,h.i⟩
  · rw [lW]; exact (A8 h.rS).mono (hm (by simp))
  · have:=(Rc.take h.rB u.src.length).mono (hm (by simp:sgB gB u∈WE.sg gS gA gB M u))
    rwa [show (dc (u.src++List.replicate 80 219)).take u.src.length=dc u.src by rw [bV]; exact List.take_left' (aI _)] at this
end Go.Proofs.YtepbmdlgdaedpaaGreatDoor
namespace Go.Proofs.YtepbmdlgdaedpaaGreatDoor
open Go.RowKit Go.Dk
theorem J8 {w0:World} {R:List Seg} {A:Option Addr} {l m:List (List UInt8)} (h:Rc w0 R A (cel cS (l++m))):Rc w0 R A (cel cS l):=by
  have:=h.take (cel cS l).length
  rwa [gp,List.take_left' rfl] at this
end Go.Proofs.YtepbmdlgdaedpaaGreatDoor
