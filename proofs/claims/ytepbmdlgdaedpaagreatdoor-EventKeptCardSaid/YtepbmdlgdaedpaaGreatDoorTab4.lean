/- Texts that belong together, one behind the other. -/
import Derived.Test.YtepbmdlgdaedpaaGreatDoorOf
import Derived.Test.YtepbmdlgdaedpaaGreatDoorSum
import Derived.Test.YtepbmdlgdaedpaaGreatDoorVc
import Derived.Test.YtepbmdlgdaedpaaGreatDoorTwo
import Derived.Test.YtepbmdlgdaedpaaGreatDoorLists
import Derived.Test.YtepbmdlgdaedpaaGreatDoorOctetW
import Derived.Test.YtepbmdlgdaedpaaGreatDoorMap
namespace Go.Proofs.YtepbmdlgdaedpaaGreatDoor
open Go.RowKit Go.Dk
theorem Pieces.nil (w:World):Pieces w none []:=⟨fun h=>absurd rfl h,fun _ _ _ h=>by cases h⟩
theorem Pieces.row {w0 w:World} {L:List Row} {g k:Nat} {t:TypeId} {ps:List Part} (hA:At w0 L w) (hk:L[k]? = some (g,t,ps.map fun p=>Value.slice p.1 p.2.2.length p.2.1)) (hp:∀ A c l,(A,c,l)∈ps→l.length≤c∧Bts w A l):Pieces w (some ⟨g,0,none⟩) ps:=by
  refine ⟨fun _=>⟨g,0,rfl,hA.lt hk,fun i A c l hi=>?_⟩,hp⟩
  rw [Nat.zero_add,hA.cell hk,List.getElem?_map,hi]
  rfl
end Go.Proofs.YtepbmdlgdaedpaaGreatDoor
namespace Go.Proofs.YtepbmdlgdaedpaaGreatDoor
open Go.RowKit Go.Dk
theorem Wr.drew {w0:World} {wb:Nat} {R X:List Row} {v:Value} {l:List UInt8} {w:World} (h:Wr w0 wb R X v l w):Wr w0 wb R X v l w.drew:=⟨h.1,h.2.drew⟩
end Go.Proofs.YtepbmdlgdaedpaaGreatDoor
namespace Go.Proofs.YtepbmdlgdaedpaaGreatDoor
open Go.RowKit Go.Dk
def wI (dig tx:Nat→List UInt8) (n:Nat):Prop:=∀ a b,a<n→b<n→dig a=dig b→tx a=tx b
def Jq (dig tx:Nat→List UInt8) (i j:Nat):Prop:=i<j∧dig i=dig j∧tx i≠tx j∧wI dig tx j∧∀ a,a<i→dig a≠dig j
structure Firsts (dig tx:Nat→List UInt8) (M:List (List UInt8 × Nat)) (j:Nat):Prop where
  idx:∀ p∈M,p.2<j∧p.1=dig p.2∧∀ a,a<p.2→dig a≠p.1
  cov:∀ a,a<j→∃ p∈M,p.1=dig a∧tx p.2=tx a
section
variable {dig tx:Nat→List UInt8} {M:List (List UInt8 × Nat)} {j:Nat}
theorem Firsts.nil:Firsts dig tx [] 0:=⟨(fun _ h=>by cases h),fun a h=>absurd h (Nat.not_lt_zero a)⟩
theorem Firsts.none (h:Firsts dig tx M j):wI dig tx j:=by
  intro a b ha hb hab
  obtain ⟨p,hp,p1,p2⟩:=h.cov a ha
  obtain ⟨q,hq,q1,q2⟩:=h.cov b hb
  have hpq:p.1=q.1:=by rw [p1,q1,hab]
  obtain ⟨_,e1,m1⟩:=h.idx p hp
  obtain ⟨_,e2,m2⟩:=h.idx q hq
  have:p.2=q.2:=by
    rcases Nat.lt_trichotomy p.2 q.2 with h1 | h1 | h1
    · exact absurd (e1.symm.trans hpq) (m2 _ h1)
    · exact h1
    · exact absurd (e2.symm.trans hpq.symm) (m1 _ h1)
  rw [← p2,← q2,this]
theorem Firsts.push (h:Firsts dig tx M j) (hno:∀ p∈M,p.1≠dig j):Firsts dig tx (M++[(dig j,j)]) (j+1):=by
  refine ⟨fun p hp=>?_,fun a ha=>?_⟩
  · rcases List.mem_append.1 hp with hp | hp
    · obtain ⟨h1,h2,h3⟩:=h.idx p hp; exact ⟨ ag,h2,h3⟩
    · simp only [List.mem_cons,List.not_mem_nil,or_false] at hp
      subst hp
      refine ⟨Nat.lt_succ_self _,rfl,fun a ha he=>?_⟩
      obtain ⟨q,hq,q1,_⟩:=h.cov a ha
      exact hno q hq (q1.trans he)
  · rcases Nat.lt_or_ge a j with h1 | h1
    · obtain ⟨p,hp,e⟩:=h.cov a h1; exact ⟨p,Nr _ hp,e⟩
    · obtain rfl:a=j:=by omega
      exact ⟨_,Ns _ (Nu ..),rfl,rfl⟩
end
end Go.Proofs.YtepbmdlgdaedpaaGreatDoor
namespace Go.Proofs.YtepbmdlgdaedpaaGreatDoor
open Go.RowKit Go.Dk
set_option linter.unusedVariables false
section
variable {w d c h:Int} {X Y:List UInt8} {p q:Value}
end
theorem Own.drawn {w0:World} {X:List Row} {v:Value} {n:Nat} {W:List Value} (h:Own w0 5 1 X v n W):Own w0 5 1 X v n W:=h
end Go.Proofs.YtepbmdlgdaedpaaGreatDoor
