/- Texts that belong together, one behind the other. -/
import Derived.Test.YtepbmdlgdaedpaaGreatDoorOpenEv
import Derived.Lib.LaidTab
import Derived.Test.YtepbmdlgdaedpaaGreatDoorEv6
import Derived.Test.YtepbmdlgdaedpaaGreatDoorEvW
namespace Go.Proofs.YtepbmdlgdaedpaaGreatDoor
open Go.ChangeShapes Go.WideShapes Go.ChangeAt Go.RowKit Go.Dk Go.Deep
theorem CJ {W:World} {name:String} {zs:List (List UInt8)} {rest:List (String × DataW Unit)} {t e:TypeId} {n g:Nat} {P:Program}
    (hg:P.globalNamed name=some g) (hty:(P.globals[g]?).map (·.type)=some t) (ht:P.underlying t=some (.array n e)) (he:P.underlying e=some .string) (hce:P.cellsOf e=1) (hct:P.cellsOf t=n)
    (h:laidMet P ((name,.agg (zs.map fun z=> .lit (.string z)))::rest) W):Rc W [] (some ⟨g,0,none⟩) (zs.map ak):=by
  obtain ⟨ps,⟨g',t',cs,fuel,p,q,hg',ht',hvar,hd,_,_⟩,_⟩:=h
  obtain rfl:=Option.some.inj (hg.symm.trans hg')
  obtain rfl:=Option.some.inj (hty.symm.trans ht')
  have hcs:=oU ht he hce hct hd
  obtain rfl:cs=(zs.map ak).toArray:=by rw [← hcs]
  intro hne
  have hcell:∀ i,i<(zs.map ak).length→W.cell? ⟨g,i,none⟩=(zs.map ak)[i]? := fun i hi=>by
    have:=World.var?_cell hg hvar i
    simpa using this
  have hlt:g<W.heap.size:=by
    have h0:=hcell 0 (List.length_pos_iff.2 hne)
    rw [List.getElem?_eq_getElem (List.length_pos_iff.2 hne)] at h0
    rcases Nat.lt_or_ge g W.heap.size with h1 | h1
    · exact h1
    · simp [World.cell?,Array.getElem?_eq_none h1] at h0
  refine ⟨g,0,rfl,fun x hx=>⟨by have:=hx.size; omega,fun i hi=>?_⟩⟩
  rw [← hcell i hi,Nat.zero_add]
  simp only [World.cell?,hx.old hlt]
end Go.Proofs.YtepbmdlgdaedpaaGreatDoor
namespace Go.Proofs.YtepbmdlgdaedpaaGreatDoor
open Go.RowKit Go.Dk
theorem jU {α:Type} {a b c d:List α} (h:a.length=b.length) (e:a++c=b++d):a=b∧c=d:=List.append_inj e h
theorem qY {K m n:Nat} (hm:m<256 ^ K) (hn:n<256 ^ K) (h:be K m=be K n):m=n:=by
  have h1:=qB hm []
  have h2:=qB hn []
  rw [h,h2] at h1
  injection h1 with h3
  exact h3.symm
theorem xZ {s t c d:List UInt8} (hs:s.length≤64) (ht:t.length≤64) (h:nameB s++c=nameB t++d):s=t∧c=d:=by
  unfold nameB at h
  rw [List.append_assoc,List.append_assoc] at h
  obtain ⟨h1,h2⟩:=jU (by rw [aT,aT]) h
  have h3:s.length=t.length:=qY (K:=2) (by show s.length<65536; omega) (by show t.length<65536; omega) h1
  exact jU h3 h2
end Go.Proofs.YtepbmdlgdaedpaaGreatDoor
