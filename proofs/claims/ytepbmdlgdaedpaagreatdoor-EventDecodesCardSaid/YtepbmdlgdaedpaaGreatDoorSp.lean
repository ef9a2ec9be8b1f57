/- Texts that belong together, one behind the other. -/
import Derived.Test.YtepbmdlgdaedpaaGreatDoorEvI
import Derived.Test.YtepbmdlgdaedpaaGreatDoorEv9
import Derived.Test.YtepbmdlgdaedpaaGreatDoorHs
import Derived.Laws.StructEq
import Derived.Stop.BytesEq
namespace Go.Proofs.YtepbmdlgdaedpaaGreatDoor
open Go.RowKit Go.Dk
def gQ (n lo hi:Int):Int:=lo+n.emod (hi-lo+1)
theorem xx (n m:Int) (hm:0<m) : -m<n.tmod m∧n.tmod m<m∧n.emod m=if n.tmod m<0 then n.tmod m+m else n.tmod m:=by
 have h1:=Int.tmod_lt_of_pos n hm
 have h2:=Int.emod_nonneg n (show m≠0 by omega)
 have h3:=Int.emod_lt_of_pos n hm
 have h4:=Int.mul_tdiv_add_tmod n m
 have h5:=Int.mul_ediv_add_emod n m
 have h6 : -m<n.tmod m:=by
  have:=Int.tmod_lt_of_pos (-n) hm
  rw [Int.neg_tmod] at this
  omega
 refine ⟨h6,h1,?_⟩
 have h7:m*(n/m-n.tdiv m)=n.tmod m-n.emod m:=by
  rw [Int.mul_sub]
  have:n.emod m=n%m:=rfl
  rw [this]
  omega
 have h8:n.emod m=n%m:=rfl
 split
 ·have h9:n/m-n.tdiv m = -1:=by
   have a1:m*(n/m-n.tdiv m)<0:=by omega
   have a2 : -(2*m)<m*(n/m-n.tdiv m):=by omega
   have a3:n/m-n.tdiv m<0:=by
    rcases Int.lt_or_le (n/m-n.tdiv m) 0 with h | h
    ·exact h
    ·have:=Int.mul_nonneg (Int.le_of_lt hm) h; omega
   have a4 : -2<n/m-n.tdiv m:=by
    rcases Int.lt_or_le (-2) (n/m-n.tdiv m) with h | h
    ·exact h
    ·have:=Int.mul_le_mul_of_nonneg_left h (Int.le_of_lt hm); omega
   omega
  rw [h9] at h7
  omega
 ·have h9:n/m-n.tdiv m=0:=by
   have a1 : -m<m*(n/m-n.tdiv m):=by omega
   have a2:m*(n/m-n.tdiv m)<m:=by omega
   have a3:n/m-n.tdiv m<1:=by
    rcases Int.lt_or_le (n/m-n.tdiv m) 1 with h | h
    ·exact h
    ·have:=Int.mul_le_mul_of_nonneg_left h (Int.le_of_lt hm); omega
   have a4 : -1<n/m-n.tdiv m:=by
    rcases Int.lt_or_le (-1) (n/m-n.tdiv m) with h | h
    ·exact h
    ·have:=Int.mul_le_mul_of_nonneg_left h (Int.le_of_lt hm); omega
   omega
  rw [h9] at h7
  omega
theorem kS (n lo hi:Int) (h:lo≤hi):lo≤gQ n lo hi∧gQ n lo hi≤hi:=by
 have h2:=Int.emod_nonneg n (show hi-lo+1≠0 by omega)
 have h3:=Int.emod_lt_of_pos n (show 0<hi-lo+1 by omega)
 unfold gQ
 have h4:n.emod (hi-lo+1)=n%(hi-lo+1):=rfl
 omega
set_option maxRecDepth 100000 in
set_option maxHeartbeats 8000000 in
theorem sJ (w:World) (n lo hi:Int) (h0:0≤lo) (h1:lo≤hi) (h2:hi<2305843009213693952):Calls Tryz.prog 19 #[.int .i64 n,.int .i64 lo,.int .i64 hi] w fun e w'=>e= .returned (.int .i64 (gQ n lo hi))∧w=w':=by
 obtain ⟨k1,k2,k3⟩:=xx n (hi-lo+1) ag
 have k4:gQ n lo hi=lo+n.emod (hi-lo+1):=rfl
 generalize hq:n.tmod (hi-lo+1)=q at *
 refine aO Tryz.func19 O Tryz.ntmps19 ai (fun a hF=>?_)
 refine wS hF fun K1 hK1=>vX O<|vE hK1<|wT fun K2 hK2=>vX O<|vX O<|vX O<|vV O (eU O O O (KX _ ag))<|vV O (bU O O O (KX _ ag))<|vV O (Jv O O O ag hq)<|vX O<|vE hK2<|wQ fun K3 hK3=>wT fun K4 hK4=>vX O<|vV O (aG O O O O O)<|vE hK4 fun a hF=>?_
 by_cases hneg:q<0
 ·refine aF hF O (dM hneg) ?_
  refine wp_region_lit ?_
  refine vR hF<|vX O<|vX O<|vV O (bU O O O (KX _ ag))<|vX O<|vV O (eU O O O (KX _ ag))<|vV O (bU O O O (KX _ ag))<|vX O<|vE hK3<|wT fun K5 hK5=>vX O<|vX O<|vV O (bU O O O (show IntKind.i64.wrap _=gQ n lo hi by rw [KX _ ag,k4,k3]; first | rw [if_pos hneg]; omega | rw [if_neg hneg])) fun a hF=>?_
  refine vR hF<|vX O<|vE hK5 fun a hF=>?_
  apply wp_ret
  refine aN hF Tryz.results19 O ?_
  exact ⟨rfl,rfl⟩
 ·refine ay hF O (dG ag) ?_
  apply wp_skip
  refine hK3 _ _ ?_
  refine wS hF fun K6 hK6=>vX O<|vX O<|vV O (bU O O O (show IntKind.i64.wrap _=gQ n lo hi by rw [KX _ ag,k4,k3]; first | rw [if_pos hneg]; omega | rw [if_neg hneg])) fun a hF=>?_
  refine vR hF<|vX O<|vE hK6 fun a hF=>?_
  apply wp_ret
  refine aN hF Tryz.results19 O ?_
  exact ⟨rfl,rfl⟩
end Go.Proofs.YtepbmdlgdaedpaaGreatDoor
namespace Go.Dk
open Go Go.RowKit
section
variable {P:Program} {w:World} {n:Nat} {F:List (Nat × Value)} {o:Oper} {t t' e ti:TypeId} {x y:Operand} {v:Value}
end
section
variable {e:TypeId} {X:Seg} {v:Value} {A:Option Addr} {z m n i c k:Nat} {W B Z V:List Value}
theorem Buf.cut (h:Buf e z X (.slice A m c) m W) (hn:n≤m):Buf e z X (.slice A n c) n (W.take (n*z)):=by
  have hW:=h.1
  obtain ⟨d,rfl⟩:∃ d,m=n+d:=⟨m-n,ag⟩
  rw [Nat.add_mul] at hW
  refine ⟨by rw [List.length_take,hW]; omega,?_⟩
  rcases h.2 with ⟨h1,h2,h3⟩ | ⟨g,c',B,Z,h1,h2,h3,h4⟩
  · injection h1 with e1 e2 e3
    subst e1 e3
    exact .inl ⟨by rw [show n=0 by omega],ag,h3⟩
  · injection h1 with e1 e2 e3
    subst e1 e3
    obtain ⟨f,rfl⟩:∃ f,c=n+d+f:=⟨c-(n+d),ag⟩
    refine .inr ⟨g,_,B,W.drop (n*z)++Z,rfl,ag,?_,?_⟩
    · rw [show n+d+f-(n+d)=f by omega] at h3
      rw [List.length_append,List.length_drop,hW,h3,show n+d+f-n=d+f by omega,Nat.add_mul]
      omega
    · rw [h4]
      simp only [List.append_assoc,List.append_cancel_left_eq,List.cons.injEq,and_true]
      congr 2
      rw [← List.append_assoc (W.take _),List.take_append_drop]
theorem Ad (h:k+V.length≤W.length):splice (B++W++Z) (B.length+k) V=B++splice W k V++Z:=by
  unfold splice
  have e1:B.take (B.length+k)=B:=Lj ag
  rw [List.append_assoc B W Z,List.take_append,e1,Nat.add_sub_cancel_left,List.take_append_of_le_length ag,Nat.add_assoc,← List.drop_drop,List.drop_left,List.drop_append_of_le_length h]
  simp [List.append_assoc]
theorem Buf.setRow (h:Buf e z X v m W) (hi:i<m) (hV:V.length=z):∃ g B Z c,v= .slice (some ⟨g,B.length,none⟩) m c∧X=[row g e (B++W++Z)]∧W.length=m*z∧i*z+z≤m*z∧Buf e z [row g e (splice (B++W++Z) (B.length+i*z) V)] v m (splice W (i*z) V):=by
  have hW:=h.1
  have hle:i*z+z≤m*z:=by have:=Nat.mul_le_mul_right z (show i+1≤m by omega); rwa [Nat.add_mul,Nat.one_mul] at this
  rcases h.2 with ⟨_,h2,_⟩ | ⟨g,c,B,Z,h1,h2,h3,h4⟩
  · omega
  · refine ⟨g,B,Z,c,h1,h4,hW,hle,?_,.inr ⟨g,c,B,Z,h1,h2,h3,?_⟩⟩
    · unfold splice
      rw [List.length_append,List.length_append,List.length_take,List.length_drop,hV]
      omega
    · rw [Ad (by rw [hV,hW]; exact hle)]
end
section
variable {P:Program} {w w0:World} {n:Nat} {F:List (Nat × Value)} {a:Act} {L:List Row} {R:List Seg}
end
structure TxX where
  v:Value
  l:List UInt8
  X:Seg
def TxX.Ok (w0:World) (t:TxX):Prop:=∃ A c,t.v= .slice A t.l.length c∧Rd w0 [t.X] A t.l
end Go.Dk
