/- EventValues walked. -/
import Derived.Test.YtepbmdlgdaedpaaGreatDoorR2
/- EventValues walked. -/
namespace Go.Proofs.YtepbmdlgdaedpaaGreatDoor
open Go.RowKit Go.Dk
theorem xM {α:Type} (r:Res α) (p q y:Nat):r.pl (p+q) y=p+r.pl q y:=by
  unfold Res.pl
  split
  · cases r with
    | ok v k=>show p+q+k=p+(q+k); omega
    | no e=>rfl
  · rfl
theorem jF {α:Type} (r:List UInt8→Res α) (d:α) (l:List UInt8) (p q y:Nat):got r d l (p+q) y=⟨(got r d (l.drop p) q y).v,p+(got r d (l.drop p) q y).p,(got r d (l.drop p) q y).y⟩:=by
  unfold got
  rw [List.drop_drop,xM]
theorem qQ (k:Nat) (l:List UInt8) (p q y:Nat):dA k l (p+q) y=⟨(dA k (l.drop p) q y).v,p+(dA k (l.drop p) q y).p,(dA k (l.drop p) q y).y⟩:=by
  unfold dA
  rw [jF (cO 8),jF dZ,jF (bW · 1024),jF (df · 64 1024)]
  by_cases h1:k=1∨k=4
  · simp only [if_pos h1]
  by_cases h2:k=2
  · simp only [if_neg h1,if_pos h2]
  by_cases h3:k=3
  · simp only [if_neg h1,if_neg h2,if_pos h3]
  by_cases h5:k=5
  · simp only [if_neg h1,if_neg h2,if_neg h3,if_pos h5]
  · simp only [if_neg h1,if_neg h2,if_neg h3,if_neg h5]
theorem xZ (l:List UInt8) (p q y:Nat):bu l (p+q) y=⟨(bu (l.drop p) q y).v,p+(bu (l.drop p) q y).p,(bu (l.drop p) q y).y⟩:=by
  unfold bu
  rw [jF (cO 1)]
  simp only
  rw [qQ]
theorem mf (l:List UInt8) (p:Nat):bu l p 0=⟨(bu (l.drop p) 0 0).v,p+(bu (l.drop p) 0 0).p,(bu (l.drop p) 0 0).y⟩:=xZ l p 0 0
theorem xY (l:List UInt8) (p:Nat) {y:Nat} (h:¬ y=0):bu l p y=⟨noVal,p,y⟩:=by
  have h1:got (cO 1) 0 l p y=⟨0,p,y⟩:=by unfold got Res.val Res.pl Res.why; rw [if_neg h,if_neg h,if_neg h]
  have h2:dA 0 l p y=⟨⟨((0:Nat):Int),0,[],[]⟩,p,y⟩:=lg (.inl rfl)
  exact DJ h1 h2 h
end Go.Proofs.YtepbmdlgdaedpaaGreatDoor
