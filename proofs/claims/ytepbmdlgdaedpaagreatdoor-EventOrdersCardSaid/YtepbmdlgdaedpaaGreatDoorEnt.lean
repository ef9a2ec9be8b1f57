/- Texts that belong together, one behind the other. -/
import Derived.Test.YtepbmdlgdaedpaaGreatDoorTab4
import Derived.Test.YtepbmdlgdaedpaaGreatDoorProg
import Derived.Test.YtepbmdlgdaedpaaGreatDoorHr
import Derived.Test.YtepbmdlgdaedpaaGreatDoorEv
import Derived.Test.YtepbmdlgdaedpaaGreatDoorHc
import Derived.Test.YtepbmdlgdaedpaaGreatDoorOctetW
import Derived.Test.YtepbmdlgdaedpaaGreatDoorOpenR
namespace Go.Proofs.YtepbmdlgdaedpaaGreatDoor
open Go.RowKit Go.Dk
def BufR (w:World) (Y:List Row) (v:Value) (l:List UInt8):Prop:=Buf 5 1 (its Y) v l.length (dc l)∧∀ r∈Y,w.heap.size≤(r:Row).1
theorem BufR.new {w:World} {Y:List Row} {v:Value} {l:List UInt8} (h:BufR w Y v l):∀ r∈Y,w.heap.size≤(r:Row).1:=h.2
theorem BufR.rows {w w':World} {Z:Seg} {v:Value} {l:List UInt8} (h:Buf 5 1 Z v l.length (dc l)) (hA:Hp w [Z] w'):∃ Y,BufR w Y v l∧At w Y w':=by
  have hA':Hl w Z w':=by
    have h1:Hl w ([Z]:List Seg).flatten w':=hA
    rw [List.flatten_cons,List.flatten_nil,List.append_nil] at h1
    exact h1
  rcases h.2 with ⟨h1,h2,h3⟩ | ⟨g,c,B,Z',h1,h2,h3,h4⟩
  · subst h3
    exact ⟨[],⟨h,fun _ h=>by cases h⟩,hA'.at0⟩
  · refine ⟨[(g,5,B++dc l++Z')],⟨by rw [← show Z=its [(g,5,B++dc l++Z')] from h4]; exact h,fun r hr=>?_⟩,⟨hA'.os,hA'.tape,hA'.output,hA'.size,fun r hr=>?_,by simp,fun k hk _=>hA'.frame k hk⟩⟩
    · rw [List.mem_singleton] at hr
      subst hr
      exact hA'.new (row g 5 (B++dc l++Z')) (by rw [h4]; exact HY ..)
    · rw [List.mem_singleton] at hr
      subst hr
      exact hA'.items (row g 5 (B++dc l++Z')) (by rw [h4]; exact HY ..)
def txL (ts:List (List UInt8)) (i:Nat):List UInt8:=(ts[i]?).getD []
def dgL (width:Int) (ts:List (List UInt8)) (i:Nat):List UInt8:=He (sha (txL ts i)) width
def ClRes (width:Int) (ts:List (List UInt8)) (b:Bool) (t1 t2:List UInt8):Prop :=
  (b=false∧t1=[]∧t2=[]∧qZ (dgL width ts) (txL ts) ts.length)∨(b=true∧∃ i j,Ey (dgL width ts) (txL ts) i j∧j<ts.length∧t1=txL ts i∧t2=txL ts j)
theorem ClRes.one {width:Int} {ts:List (List UInt8)} {b b':Bool} {t1 t2 u1 u2:List UInt8} (h:ClRes width ts b t1 t2) (h':ClRes width ts b' u1 u2):b=b'∧t1=u1∧t2=u2:=by
  rcases h with ⟨rfl,rfl,rfl,hn⟩ | ⟨rfl,i,j,hc,hj,rfl,rfl⟩
  · rcases h' with ⟨rfl,rfl,rfl,_⟩ | ⟨rfl,i,j,hc,hj,rfl,rfl⟩
    · exact ⟨rfl,rfl,rfl⟩
    · exact absurd (hn i j (by have:=hc.1; omega) hj hc.2.1) hc.2.2.1
  · rcases h' with ⟨rfl,rfl,rfl,hn⟩ | ⟨rfl,i',j',hc',hj',rfl,rfl⟩
    · exact absurd (hn i j (by have:=hc.1; omega) hj hc.2.1) hc.2.2.1
    · obtain ⟨a1,a2,a3,a4,a5⟩:=hc
      obtain ⟨b1,b2,b3,b4,b5⟩:=hc'
      have ej:j=j':=by
        rcases Nat.lt_trichotomy j j' with h | h | h
        · exact absurd (b4 i j ag h a2) a3
        · exact h
        · exact absurd (a4 i' j' ag h b2) b3
      subst ej
      have ei:i=i':=by
        rcases Nat.lt_trichotomy i i' with h | h | h
        · exact absurd a2 (b5 i h)
        · exact h
        · exact absurd b2 (a5 i' h)
      subst ei
      exact ⟨rfl,rfl,rfl⟩
end Go.Proofs.YtepbmdlgdaedpaaGreatDoor
namespace Go.Proofs.YtepbmdlgdaedpaaGreatDoor
open Go.RowKit Go.Dk
theorem FD (n:Int) (ch:List UInt8):∀ v∈(Value.int .i64 n::dc ch),v.oneCell'=true:=fun v hv=>by
  rcases List.mem_cons.1 hv with h | h
  · subst h; rfl
  · exact jR _ v h
end Go.Proofs.YtepbmdlgdaedpaaGreatDoor
