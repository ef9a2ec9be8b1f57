/- Texts that belong together, one behind the other. -/
import Derived.Test.YtepbmdlgdaedpaaGreatDoorTab4
import Derived.Test.YtepbmdlgdaedpaaGreatDoorHc
import Derived.Test.YtepbmdlgdaedpaaGreatDoorProg
import Derived.Test.YtepbmdlgdaedpaaGreatDoorHs
import Derived.Test.YtepbmdlgdaedpaaGreatDoorEv
import Derived.Test.YtepbmdlgdaedpaaGreatDoorOctetW
namespace Go.Proofs.YtepbmdlgdaedpaaGreatDoor
open Go.RowKit Go.Dk
def BufR (w:World) (Y:List Row) (v:Value) (l:List UInt8):Prop:=Buf 5 1 (its Y) v l.length (dc l)∧∀ r∈Y,w.heap.size≤(r:Row).1
theorem BufR.new {w:World} {Y:List Row} {v:Value} {l:List UInt8} (h:BufR w Y v l):∀ r∈Y,w.heap.size≤(r:Row).1:=h.2
theorem BufR.rows {w w':World} {Z:Seg} {v:Value} {l:List UInt8} (h:Buf 5 1 Z v l.length (dc l)) (hA:Hp w [Z] w'):∃ Y,BufR w Y v l∧At w Y w':=by
  have hA':Hl w Z w':=by
    have h1:Hl w ([Z]:List Seg).flatten w':=hA
    rw [List.flatten_cons,List.flatten_nil,List.append_nil] at h1
    exact h1
  rcases h.2 with ⟨h1,h2,h3⟩ | ⟨g,c,B,Z',h1,h2,h3,h4⟩
  · subst h3
    exact ⟨[],⟨h,fun _ h=>by cases h⟩,hA'.at0⟩
  · refine ⟨[(g,5,B++dc l++Z')],⟨by rw [← show Z=its [(g,5,B++dc l++Z')] from h4]; exact h,fun r hr=>?_⟩,⟨hA'.os,hA'.tape,hA'.output,hA'.size,fun r hr=>?_,by simp,fun k hk _=>hA'.frame k hk⟩⟩
    · rw [List.mem_singleton] at hr
      subst hr
      exact hA'.new (row g 5 (B++dc l++Z')) (by rw [h4]; exact P6 ..)
    · rw [List.mem_singleton] at hr
      subst hr
      exact hA'.items (row g 5 (B++dc l++Z')) (by rw [h4]; exact P6 ..)
def txL (ts:List (List UInt8)) (i:Nat):List UInt8:=(ts[i]?).getD []
def dgL (width:Int) (ts:List (List UInt8)) (i:Nat):List UInt8:=kN (sha (txL ts i)) width
def ClRes (width:Int) (ts:List (List UInt8)) (b:Bool) (t1 t2:List UInt8):Prop :=
  (b=false∧t1=[]∧t2=[]∧xO (dgL width ts) (txL ts) ts.length)∨(b=true∧∃ i j,MI (dgL width ts) (txL ts) i j∧j<ts.length∧t1=txL ts i∧t2=txL ts j)
theorem ClRes.one {width:Int} {ts:List (List UInt8)} {b b':Bool} {t1 t2 u1 u2:List UInt8} (h:ClRes width ts b t1 t2) (h':ClRes width ts b' u1 u2):b=b'∧t1=u1∧t2=u2:=by
  rcases h with ⟨rfl,rfl,rfl,hn⟩ | ⟨rfl,i,j,hc,hj,rfl,rfl⟩
  · rcases h' with ⟨rfl,rfl,rfl,_⟩ | ⟨rfl,i,j,hc,hj,rfl,rfl⟩
    · exact ⟨rfl,rfl,rfl⟩
    · exact absurd (hn i j (by have:=hc.1; omega) hj hc.2.1) hc.2.2.1
  · rcases h' with ⟨rfl,rfl,rfl,hn⟩ | ⟨rfl,i',j',hc',hj',rfl,rfl⟩
    · exact absurd (hn i j (by have:=hc.1; omega) hj hc.2.1) hc.2.2.1
    · obtain ⟨a1,a2,a3,a4,a5⟩:=hc
      obtain ⟨b1,b2,b3,b4,b5⟩:=hc'
      have ej:j=j':=by
        rcases Nat.lt_trichotomy j j' with h | h | h
        · exact absurd (b4 i j ag h a2) a3
        · exact h
        · exact absurd (a4 i' j' ag h b2) b3
      subst ej
      have ei:i=i':=by
        rcases Nat.lt_trichotomy i i' with h | h | h
        · exact absurd a2 (b5 i h)
        · exact h
        · exact absurd b2 (a5 i' h)
      subst ei
      exact ⟨rfl,rfl,rfl⟩
theorem tq {w0 w:World} {R:List Seg} {pa:Option Addr} {ps:List Piece} (h:PcS w0 R pa ps) (hq:Hq w0 R w):Pieces w pa ps:=by
  refine ⟨fun hne=>?_,fun A c l hm=>⟨(h.2 _ hm).1,(h.2 _ hm).2.bts hq⟩⟩
  obtain ⟨b,o,h1,h2⟩:=h.1 (by simpa using hne)
  refine ⟨b,o,h1,(h2 w hq).1,fun i A c l hi=>?_⟩
  have hlt:=(List.getElem?_eq_some_iff.1 hi).1
  rw [(h2 w hq).2 i (by rw [List.length_map]; exact hlt),List.getElem?_map,hi]
  rfl
end Go.Proofs.YtepbmdlgdaedpaaGreatDoor
namespace Go.Proofs.YtepbmdlgdaedpaaGreatDoor
open Go.RowKit Go.Dk
theorem CB (ps:List Piece):flat ps=(ps.map (·.2.2)).flatten:=List.flatMap_def ..
theorem OB (w0 w:World) (R:List Seg) (G:List Seg) (hG:G⊆R) (width:Int) (dom:UInt8) (di:Int) (hdi:IntKind.u8.wrap di=(dom.toNat:Int)) (pa:Option Addr) (ps:List Piece) (TS:List (List UInt8)) (c k:Nat) (hk:k=ps.length) (hTS:ps.map (·.2.2)=TS) (hP:PcS w0 G pa ps) (hl:TS.flatten.length<140737488353000) (hnb:k<9223372036854775807) (hT:Tab w0) (hA:Hp w0 R w):Calls Tryz.prog 117 #[.int .i64 width,.int .i64 di,.slice pa k c] w fun e w'=>e= .returned (.agg (dc (ofL width dom TS.flatten)).toArray)∧Hp w0 R w':=by
  subst hTS
  rw [← CB] at hl ⊢
  refine (NM w width dom di hdi pa ps c k hk (tq (hP.mono hG) hA.q) ag hnb (hT.hp hA)).mono ?_
  rintro e w' ⟨rfl,hw⟩
  exact ⟨rfl,hA.then0 hw⟩
theorem Nq (w0 w:World) (R:List Seg) (G:List Seg) (hG:G⊆R) (width:Int) (dom:UInt8) (di:Int) (hdi:IntKind.u8.wrap di=(dom.toNat:Int)) (pa:Option Addr) (ps:List Piece) (TS:List (List UInt8)) (c k:Nat) (hk:k=ps.length) (hTS:ps.map (·.2.2)=TS) (hP:PcS w0 G pa ps) (hl:TS.flatten.length<140737488353000) (hnb:k<9223372036854775807) (hA:Hp w0 R w):Calls Tryz.prog 118 #[.int .i64 width,.int .i64 di,.slice pa k c] w fun e w'=>e= .returned (.agg (dc (ofL width dom TS.flatten)).toArray)∧Hp w0 R w':=by
  subst hTS
  rw [← CB] at hl ⊢
  refine (JY w width dom di hdi pa ps c k hk (tq (hP.mono hG) hA.q) hl hnb).mono ?_
  rintro e w' ⟨rfl,hw⟩
  exact ⟨rfl,hA.then0 hw⟩
end Go.Proofs.YtepbmdlgdaedpaaGreatDoor
