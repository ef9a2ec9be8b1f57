/- What a State is: the walk. -/
import Derived.Test.YtepbmdlgdaedpaaGreatDoorOpenR
/- What a State is: the walk. -/
namespace Go.Proofs.YtepbmdlgdaedpaaGreatDoor
open Go.RowKit Go.Dk
theorem qo (a b:List Val):dI (a++b)=if dI a=0 then dI b else dI a:=by
  induction a with
  | nil=>rfl
  | cons v a ih =>
    by_cases hv:v.right=0
    · simp only [List.cons_append,dI,if_pos hv]; exact ih
    · simp only [List.cons_append,dI,if_neg hv]
theorem AQ {l:List Val} {i:Nat} {v:Val} (h:dI (l.take i)=0) (hi:l[i]? = some v) (hv:¬ v.right=0):dI l=v.right:=by
  obtain ⟨hlt,he⟩:=List.getElem?_eq_some_iff.1 hi
  conv=>lhs; rw [← List.take_append_drop i l]
  rw [qo,if_pos h,List.drop_eq_getElem_cons hlt,he,dI,if_neg hv]
theorem wC {l:List Val} {i:Nat} {v:Val} (h:dI (l.take i)=0) (hi:l[i]? = some v) (hv:v.right=0):dI (l.take (i+1))=0:=by
  rw [List.take_add_one,hi,qo,if_pos h,Option.toList_some,dI,if_pos hv]
  rfl
end Go.Proofs.YtepbmdlgdaedpaaGreatDoor
