/- What a State is: the walk. -/
import Derived.Test.YtepbmdlgdaedpaaGreatDoorOpenR
/- What a State is: the walk. -/
namespace Go.Proofs.YtepbmdlgdaedpaaGreatDoor
open Go.RowKit Go.Dk
theorem oN (a b:List Val):dm (a++b)=if dm a=0 then dm b else dm a:=by
  induction a with
  | nil=>rfl
  | cons v a ih =>
    by_cases hv:v.right=0
    · simp only [List.cons_append,dm,if_pos hv]; exact ih
    · simp only [List.cons_append,dm,if_neg hv]
theorem zA {l:List Val} {i:Nat} {v:Val} (h:dm (l.take i)=0) (hi:l[i]? = some v) (hv:¬ v.right=0):dm l=v.right:=by
  obtain ⟨hlt,he⟩:=List.getElem?_eq_some_iff.1 hi
  conv=>lhs; rw [← List.take_append_drop i l]
  rw [oN,if_pos h,List.drop_eq_getElem_cons hlt,he,dm,if_neg hv]
theorem uB {l:List Val} {i:Nat} {v:Val} (h:dm (l.take i)=0) (hi:l[i]? = some v) (hv:v.right=0):dm (l.take (i+1))=0:=by
  rw [List.take_add_one,hi,oN,if_pos h,Option.toList_some,dm,if_pos hv]
  rfl
end Go.Proofs.YtepbmdlgdaedpaaGreatDoor
