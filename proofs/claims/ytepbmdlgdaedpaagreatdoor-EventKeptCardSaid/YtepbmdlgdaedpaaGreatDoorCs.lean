/- Texts that belong together, one behind the other. -/
import Derived.Test.YtepbmdlgdaedpaaGreatDoorProg
import Derived.Test.YtepbmdlgdaedpaaGreatDoorHr
import Derived.Test.YtepbmdlgdaedpaaGreatDoorBook0
import Derived.Test.YtepbmdlgdaedpaaGreatDoorBook1
import Derived.Test.YtepbmdlgdaedpaaGreatDoorTwo
import Derived.Test.YtepbmdlgdaedpaaGreatDoorOf
import Derived.Test.YtepbmdlgdaedpaaGreatDoorSum
import Derived.Test.YtepbmdlgdaedpaaGreatDoorVc
import Derived.Test.YtepbmdlgdaedpaaGreatDoorTab4
namespace Go.Proofs.YtepbmdlgdaedpaaGreatDoor
open Go.RowKit Go.Dk
theorem Tab.hp {w0 w:World} {S:List Seg} (hT:Tab w0) (hA:Hp w0 S w):Tab w:=fun i hi=>by
  have h1:=hT i hi
  have h0:=hA.frame 2 hT.lt
  unfold World.cell? at h1 ⊢
  simp only [h0]
  exact h1
theorem Hp.poke {w0 w:World} {R:List Seg} {g:Nat} {o:Obj} (o':Obj) (h:Hp w0 ([(g,o)]::R) w):∃ w',Hp w0 ([(g,o')]::R) w'∧w'.heap[g]? = some o':=by
  have hg:w.heap[g]? = some o:=h.items (g,o) (Nu ..)
  have hlt:g<w.heap.size:=(Array.getElem?_eq_some_iff.1 hg).1
  have hnew:w0.heap.size≤g:=h.new (g,o) (Nu ..)
  have hd:=h.dist
  simp only [List.flatten_cons,List.cons_append,List.nil_append,List.map_cons,List.nodup_cons] at hd
  have hset:(w.heap.setIfInBounds g o')[g]? = some o':=by rw [Array.getElem?_setIfInBounds_self_of_lt hlt]
  refine ⟨{ w with heap:=w.heap.setIfInBounds g o' },⟨h.os,h.tape,h.output,by rw [Array.size_setIfInBounds]; exact h.size,?_,?_,?_,?_⟩,hset⟩
  · intro r hr
    rcases List.mem_cons.1 hr with rfl | hr
    · exact hset
    · have hne:g≠r.1:=fun e=>hd.1 (e ▸ List.mem_map_of_mem hr)
      rw [Array.getElem?_setIfInBounds_ne hne]
      exact h.items r (Nw _ hr)
  · simp only [List.flatten_cons,List.cons_append,List.nil_append,List.map_cons,List.nodup_cons]
    exact hd
  · intro r hr
    rcases List.mem_cons.1 hr with rfl | hr
    · exact hnew
    · exact h.new r (Nw _ hr)
  · intro k hk
    rw [Array.getElem?_setIfInBounds_ne ag]
    exact h.frame k hk
theorem Rd.off {w0 w:World} {R:List Seg} {g:Nat} {t:TypeId} {cs:List Value} {A:Option Addr} {l:List UInt8} (hR:Rd w0 R A l) (hA:Hp w0 ([row g t cs]::R) w):l≠[]→Off A g:=fun hne ad he hb=>by
  obtain ⟨b,o,h1,h2⟩:=hR (fun e=>hne (List.length_eq_zero_iff.1 (by rw [← aW,e]; rfl)))
  rw [h1] at he
  injection he with he
  subst he
  subst hb
  obtain ⟨w',h3,h4⟩:=Hp.poke (.cells (List.toArray []) t (0,0)) hA
  have h5:=(h2 w' (Hp.tail h3).q).2 0 (by rw [aW]; exact List.length_pos_iff.2 hne)
  rw [cell_of_row w' b (o+0) _ t (0,0) h4] at h5
  have h6:(dc l)[0]? = some (.int .u8 ((bAt l 0).toNat:Int)):=rQ (List.length_pos_iff.2 hne)
  rw [h6] at h5
  simp at h5
theorem Hp.apart {w0 w:World} {X:Seg} {S:List Seg} {r r':Dk.Item} (h:Hp w0 (X::S) w) (hr:r∈X) (hr':r'∈S.flatten):r'.1≠r.1:=fun e=>by
  have hd:=h.dist
  rw [List.flatten_cons,List.map_append,List.nodup_append] at hd
  exact hd.2.2 _ (List.mem_map_of_mem hr) _ (List.mem_map_of_mem hr') e.symm
end Go.Proofs.YtepbmdlgdaedpaaGreatDoor
namespace Go.Proofs.YtepbmdlgdaedpaaGreatDoor
open Go.RowKit Go.Dk
def BufR (w:World) (Y:List Row) (v:Value) (l:List UInt8):Prop:=Buf 5 1 (its Y) v l.length (dc l)∧∀ r∈Y,w.heap.size≤(r:Row).1
theorem BufR.new {w:World} {Y:List Row} {v:Value} {l:List UInt8} (h:BufR w Y v l):∀ r∈Y,w.heap.size≤(r:Row).1:=h.2
theorem BufR.rows {w w':World} {Z:Seg} {v:Value} {l:List UInt8} (h:Buf 5 1 Z v l.length (dc l)) (hA:Hp w [Z] w'):∃ Y,BufR w Y v l∧At w Y w':=by
  have hA':Hl w Z w':=by
    have h1:Hl w ([Z]:List Seg).flatten w':=hA
    rw [List.flatten_cons,List.flatten_nil,List.append_nil] at h1
    exact h1
  rcases h.2 with ⟨h1,h2,h3⟩ | ⟨g,c,B,Z',h1,h2,h3,h4⟩
  · subst h3
    exact ⟨[],⟨h,fun _ h=>by cases h⟩,hA'.at0⟩
  · refine ⟨[(g,5,B++dc l++Z')],⟨by rw [← show Z=its [(g,5,B++dc l++Z')] from h4]; exact h,fun r hr=>?_⟩,⟨hA'.os,hA'.tape,hA'.output,hA'.size,fun r hr=>?_,by simp,fun k hk _=>hA'.frame k hk⟩⟩
    · rw [List.mem_singleton] at hr
      subst hr
      exact hA'.new (row g 5 (B++dc l++Z')) (by rw [h4]; exact Nu ..)
    · rw [List.mem_singleton] at hr
      subst hr
      exact hA'.items (row g 5 (B++dc l++Z')) (by rw [h4]; exact Nu ..)
def txL (ts:List (List UInt8)) (i:Nat):List UInt8:=(ts[i]?).getD []
def dgL (width:Int) (ts:List (List UInt8)) (i:Nat):List UInt8:=MX (sha (txL ts i)) width
def ClRes (width:Int) (ts:List (List UInt8)) (b:Bool) (t1 t2:List UInt8):Prop :=
  (b=false∧t1=[]∧t2=[]∧wI (dgL width ts) (txL ts) ts.length)∨(b=true∧∃ i j,Jq (dgL width ts) (txL ts) i j∧j<ts.length∧t1=txL ts i∧t2=txL ts j)
theorem ClRes.one {width:Int} {ts:List (List UInt8)} {b b':Bool} {t1 t2 u1 u2:List UInt8} (h:ClRes width ts b t1 t2) (h':ClRes width ts b' u1 u2):b=b'∧t1=u1∧t2=u2:=by
  rcases h with ⟨rfl,rfl,rfl,hn⟩ | ⟨rfl,i,j,hc,hj,rfl,rfl⟩
  · rcases h' with ⟨rfl,rfl,rfl,_⟩ | ⟨rfl,i,j,hc,hj,rfl,rfl⟩
    · exact ⟨rfl,rfl,rfl⟩
    · exact absurd (hn i j (by have:=hc.1; omega) hj hc.2.1) hc.2.2.1
  · rcases h' with ⟨rfl,rfl,rfl,hn⟩ | ⟨rfl,i',j',hc',hj',rfl,rfl⟩
    · exact absurd (hn i j (by have:=hc.1; omega) hj hc.2.1) hc.2.2.1
    · obtain ⟨a1,a2,a3,a4,a5⟩:=hc
      obtain ⟨b1,b2,b3,b4,b5⟩:=hc'
      have ej:j=j':=by
        rcases Nat.lt_trichotomy j j' with h | h | h
        · exact absurd (b4 i j ag h a2) a3
        · exact h
        · exact absurd (a4 i' j' ag h b2) b3
      subst ej
      have ei:i=i':=by
        rcases Nat.lt_trichotomy i i' with h | h | h
        · exact absurd a2 (b5 i h)
        · exact h
        · exact absurd b2 (a5 i' h)
      subst ei
      exact ⟨rfl,rfl,rfl⟩
end Go.Proofs.YtepbmdlgdaedpaaGreatDoor
