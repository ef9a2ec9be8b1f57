/- Texts that belong together, one behind the other. -/
import Derived.Test.YtepbmdlgdaedpaaGreatDoorEv
import Derived.Test.YtepbmdlgdaedpaaGreatDoorProg
import Derived.Test.YtepbmdlgdaedpaaGreatDoorHr
import Derived.Test.YtepbmdlgdaedpaaGreatDoorMore
import Derived.Test.YtepbmdlgdaedpaaGreatDoorOf
import Derived.Test.YtepbmdlgdaedpaaGreatDoorSum
import Derived.Test.YtepbmdlgdaedpaaGreatDoorTake
import Derived.Test.YtepbmdlgdaedpaaGreatDoorVc
namespace Go.Dk
open Go Go.RowKit
section
variable {e:TypeId} {sz n c j:Nat} {X:Seg} {A:Option Addr} {W:List Value}
end
section
variable {α:Type}
def mkL (mv:Nat→α) (j:Nat):List α:=(List.range j).map mv
def Mk (C:α→List Value) (e:TypeId) (sz:Nat) (mv:Nat→α) (k:KeptX α) (X:Seg):Prop:=∃ A c,k.v= .slice A k.l.length c∧Buf e sz X (.slice A c c) c (cel C (mkL mv c))
def ApS (C:α→List Value) (e:TypeId) (sz:Nat) (mv:Nat→Nat→α) (ks:List (KeptX α)) (i:Nat) (XS:List Seg):Prop :=
  XS.length=ks.length∧∀ m k X,ks[m]? = some k→XS[m]? = some X→(m<i→Mk C e sz (mv m) k X)∧(i≤m→Buf e sz X k.v k.l.length (cel C k.l))
variable {C:α→List Value} {e:TypeId} {sz i:Nat} {mv:Nat→Nat→α} {ks:List (KeptX α)} {XS:List Seg}
theorem ApS.new (hK:∀ k∈ks,KOK C e sz k):ApS C e sz mv ks 0 (ks.map (·.X)):=by
  refine ⟨by simp,fun m k X h1 h2=>⟨fun h=>absurd h (Nat.not_lt_zero _),fun _=>?_⟩⟩
  rw [List.getElem?_map,h1] at h2
  injection h2 with h2
  subst h2
  exact (hK k (List.mem_of_getElem? h1)).2.2.1
theorem ApS.at (h:ApS C e sz mv ks i XS) {m:Nat} (hm:m<ks.length):∃ k X,ks[m]? = some k∧XS[m]? = some X∧(m<i→Mk C e sz (mv m) k X)∧(i≤m→Buf e sz X k.v k.l.length (cel C k.l)):=by
  have h1:ks[m]? = some ks[m]:=List.getElem?_eq_getElem hm
  have h2:XS[m]? = some (XS[m]'(by rw [h.1]; exact hm)):=List.getElem?_eq_getElem _
  exact ⟨_,_,h1,h2,h.2 m _ _ h1 h2⟩
theorem ApS.step (h:ApS C e sz mv ks i XS) {k:KeptX α} {X:Seg} (hk:ks[i]? = some k) (hX:Mk C e sz (mv i) k X):ApS C e sz mv ks (i+1) (XS.set i X):=by
  refine ⟨by rw [List.length_set]; exact h.1,fun m k' X' h1 h2=>?_⟩
  by_cases hm:m=i
  · subst hm
    rw [hk] at h1
    injection h1 with h1
    subst h1
    have hl:=(List.getElem?_eq_some_iff.1 h2).1
    rw [List.length_set] at hl
    rw [List.getElem?_set_self hl] at h2
    injection h2 with h2
    subst h2
    exact ⟨fun _=>hX,fun h=>absurd h ag⟩
  · rw [List.getElem?_set_ne (fun h=>hm h.symm)] at h2
    obtain ⟨h3,h4⟩:=h.2 m k' X' h1 h2
    exact ⟨fun h=>h3 ag,fun h=>h4 ag⟩
variable {w0 w:World} {R:List Seg} {B XL XW X:Seg}
def BookV (C:α→List Value) (se e:TypeId) (sz:Nat) (ks:List (KeptX α)) (lv wv:Value) (Y:Seg):Prop :=
  ks.length≤4000∧∃ XL XW,Buf se 1 XL lv ks.length (ks.map (·.v))∧Buf se 1 XW wv ks.length (ks.map (·.cv))∧(∀ k∈ks,KOK C e sz k)∧Y=XL++(XW++EE ks)
theorem BookV.new (C:α→List Value) (se e:TypeId) (sz:Nat):BookV C se e sz [] (.slice none 0 0) (.slice none 0 0) [] :=
  ⟨Hy _,[],[],Buf.nil _ _,Buf.nil _ _,(fun _ h=>by cases h),rfl⟩
end
section
variable {P:Program} {w:World} {n:Nat} {F:List (Nat × Value)} {o:Oper} {t t':TypeId} {x y:Operand}
end
end Go.Dk
namespace Go.Proofs.YtepbmdlgdaedpaaGreatDoor
open Go.RowKit Go.Dk
theorem Tab.hp {w0 w:World} {S:List Seg} (hT:Tab w0) (hA:Hp w0 S w):Tab w:=fun i hi=>by
  have h1:=hT i hi
  have h0:=hA.frame 2 hT.lt
  unfold World.cell? at h1 ⊢
  simp only [h0]
  exact h1
theorem Hp.poke {w0 w:World} {R:List Seg} {g:Nat} {o:Obj} (o':Obj) (h:Hp w0 ([(g,o)]::R) w):∃ w',Hp w0 ([(g,o')]::R) w'∧w'.heap[g]? = some o':=by
  have hg:w.heap[g]? = some o:=h.items (g,o) (HY ..)
  have hlt:g<w.heap.size:=(Array.getElem?_eq_some_iff.1 hg).1
  have hnew:w0.heap.size≤g:=h.new (g,o) (HY ..)
  have hd:=h.dist
  simp only [List.flatten_cons,List.cons_append,List.nil_append,List.map_cons,List.nodup_cons] at hd
  have hset:(w.heap.setIfInBounds g o')[g]? = some o':=by rw [Array.getElem?_setIfInBounds_self_of_lt hlt]
  refine ⟨{ w with heap:=w.heap.setIfInBounds g o' },⟨h.os,h.tape,h.output,by rw [Array.size_setIfInBounds]; exact h.size,?_,?_,?_,?_⟩,hset⟩
  · intro r hr
    rcases List.mem_cons.1 hr with rfl | hr
    · exact hset
    · have hne:g≠r.1:=fun e=>hd.1 (e ▸ List.mem_map_of_mem hr)
      rw [Array.getElem?_setIfInBounds_ne hne]
      exact h.items r (H5 _ hr)
  · simp only [List.flatten_cons,List.cons_append,List.nil_append,List.map_cons,List.nodup_cons]
    exact hd
  · intro r hr
    rcases List.mem_cons.1 hr with rfl | hr
    · exact hnew
    · exact h.new r (H5 _ hr)
  · intro k hk
    rw [Array.getElem?_setIfInBounds_ne ag]
    exact h.frame k hk
theorem Rd.off {w0 w:World} {R:List Seg} {g:Nat} {t:TypeId} {cs:List Value} {A:Option Addr} {l:List UInt8} (hR:Rd w0 R A l) (hA:Hp w0 ([row g t cs]::R) w):l≠[]→Off A g:=fun hne ad he hb=>by
  obtain ⟨b,o,h1,h2⟩:=hR (fun e=>hne (List.length_eq_zero_iff.1 (by rw [← aQ,e]; rfl)))
  rw [h1] at he
  injection he with he
  subst he
  subst hb
  obtain ⟨w',h3,h4⟩:=Hp.poke (.cells (List.toArray []) t (0,0)) hA
  have h5:=(h2 w' (Hp.tail h3).q).2 0 (by rw [aQ]; exact List.length_pos_iff.2 hne)
  rw [cell_of_row w' b (o+0) _ t (0,0) h4] at h5
  have h6:(dc l)[0]? = some (.int .u8 ((bAt l 0).toNat:Int)):=oh (List.length_pos_iff.2 hne)
  rw [h6] at h5
  simp at h5
theorem Hp.apart {w0 w:World} {X:Seg} {S:List Seg} {r r':Dk.Item} (h:Hp w0 (X::S) w) (hr:r∈X) (hr':r'∈S.flatten):r'.1≠r.1:=fun e=>by
  have hd:=h.dist
  rw [List.flatten_cons,List.map_append,List.nodup_append] at hd
  exact hd.2.2 _ (List.mem_map_of_mem hr) _ (List.mem_map_of_mem hr') e.symm
end Go.Proofs.YtepbmdlgdaedpaaGreatDoor
