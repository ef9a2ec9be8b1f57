/- Items in any order: one row. No program is walked here. -/
import Derived.Test.YtpomngkcfbnjoaaGreatDoorSpI
/- Items in any order: one row. No program is walked here. -/
namespace Go.Proofs.YtpomngkcfbnjoaaGreatDoor
open Go Go.RowKit Go.Dk
def Ris (l:List Itm):Prop:=l.Pairwise fun a b=>nb a.k<nb b.k
theorem Gm:∀ {l m:List Itm},Ris l→Ris m→(∀ x,x∈l↔x∈m)→l=m
  | [],[],_,_,_=>rfl
  | [],y::m,_,_,h=>absurd ((h y).2 (TF ..)) (by simp)
  | x::l,[],_,_,h=>absurd ((h x).1 (TF ..)) (by simp)
  | x::l,y::m,hl,hm,h=>by
    obtain ⟨l1,l2⟩:=List.pairwise_cons.1 hl
    obtain ⟨m1,m2⟩:=List.pairwise_cons.1 hm
    have e:x=y:=by
      rcases List.mem_cons.1 ((h x).1 (TF ..)) with e | hx
      · exact e
      · rcases List.mem_cons.1 ((h y).2 (TF ..)) with e | hy
        · exact e.symm
        · have h1:=l1 y hy
          have h2:=m1 x hx
          omega
    subst e
    rw [Gm l2 m2 fun z=>?_]
    have hz:=h z
    rw [List.mem_cons,List.mem_cons] at hz
    constructor
    · intro h3
      rcases hz.1 (.inr h3) with rfl | h4
      · have:=l1 z h3; omega
      · exact h4
    · intro h3
      rcases hz.2 (.inr h3) with rfl | h4
      · have:=m1 z h3; omega
      · exact h4
def NeK (l:List Itm):Prop:=l.Pairwise fun a b=>a.k≠b.k
theorem NeK.perm {l m:List Itm} (h:NeK l) (hp:l.Perm m):NeK m:=(hp.pairwise_iff (fun hab=>Ne.symm hab)).1 h
structure Put2 (m Lc:List Itm) (t:Nat):Prop where
  ris:Ris Lc
  ok:∀ x∈Lc,x.OK
  keys:∀ x∈Lc,∃ y∈m,y.k=x.k
  there:∀ (j:Nat) (y:Itm),t≤j→m[j]? = some y→y∈Lc
theorem Put2.start (m:List Itm):Put2 m [] m.length:=⟨List.Pairwise.nil,(fun x hx=>by cases hx),(fun x hx=>by cases hx),fun j y hj h=>by rw [List.getElem?_eq_none hj] at h; cases h⟩
theorem Put2.done {m Lc L:List Itm} (h:Put2 m Lc 0) (hm:∀ i∈m,i.OK) (hL:Ris L) (hx:∀ x,x∈L↔x∈m):Lc=L:=by
  refine Gm h.ris hL fun x=>?_
  rw [hx x]
  have hin:∀ y∈m,y∈Lc:=fun y hy=>by
    obtain ⟨j,hj,rfl⟩:=List.getElem_of_mem hy
    exact h.there j _ (Tv _) (List.getElem?_eq_getElem hj)
  refine ⟨fun hx=>?_,hin x⟩
  obtain ⟨y,hy,hk⟩:=h.keys x hx
  have hy2:=hin y hy
  have:x=y:=by
    rcases List.getElem_of_mem hx with ⟨a,ha,rfl⟩
    rcases List.getElem_of_mem hy2 with ⟨b,hb,rfl⟩
    rcases Nat.lt_trichotomy a b with hlt | rfl | hlt
    · have:=List.pairwise_iff_getElem.1 h.ris a b ha hb hlt; rw [hk] at this; omega
    · rfl
    · have:=List.pairwise_iff_getElem.1 h.ris b a hb ha hlt; rw [hk] at this; omega
  rw [this]; exact hy
end Go.Proofs.YtpomngkcfbnjoaaGreatDoor
