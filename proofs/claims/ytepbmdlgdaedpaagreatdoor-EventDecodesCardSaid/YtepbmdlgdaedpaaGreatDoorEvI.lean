/- Texts that belong together, one behind the other. -/
import Derived.Test.YtepbmdlgdaedpaaGreatDoorOpenEv
import Derived.Lib.LaidTab
import Derived.Test.YtepbmdlgdaedpaaGreatDoorEv6
import Derived.Test.YtepbmdlgdaedpaaGreatDoorEvW
namespace Go.Proofs.YtepbmdlgdaedpaaGreatDoor
open Go.ChangeShapes Go.WideShapes Go.ChangeAt Go.RowKit Go.Dk Go.Deep
theorem AA {P:Program} {W:World} {x:String × DataW Unit} {rest:List (String × DataW Unit)} (h:laidMet P (x::rest) W):laidMet P rest W:=by
  obtain ⟨ps,⟨g,t,cs,fuel,p,q,h1,h2,h3,h4,h5,rfl⟩,hn,hr⟩:=h
  exact ⟨q,h5,(List.nodup_append.1 hn).2.1,fun b off hb=>hr b off (LG _ hb)⟩
theorem yJ {W:World} {name:String} {zs:List (List UInt8)} {rest:List (String × DataW Unit)} {t e:TypeId} {n g:Nat} {P:Program}
    (hg:P.globalNamed name=some g) (hty:(P.globals[g]?).map (·.type)=some t) (ht:P.underlying t=some (.array n e)) (he:P.underlying e=some .string) (hce:P.cellsOf e=1) (hct:P.cellsOf t=n)
    (h:laidMet P ((name,.agg (zs.map fun z=> .lit (.string z)))::rest) W):Rc W [] (some ⟨g,0,none⟩) (zs.map ak):=by
  obtain ⟨ps,⟨g',t',cs,fuel,p,q,hg',ht',hvar,hd,_,_⟩,_⟩:=h
  obtain rfl:=Option.some.inj (hg.symm.trans hg')
  obtain rfl:=Option.some.inj (hty.symm.trans ht')
  have hcs:=qW ht he hce hct hd
  obtain rfl:cs=(zs.map ak).toArray:=by rw [← hcs]
  intro hne
  have hcell:∀ i,i<(zs.map ak).length→W.cell? ⟨g,i,none⟩=(zs.map ak)[i]? := fun i hi=>by
    have:=World.var?_cell hg hvar i
    simpa using this
  have hlt:g<W.heap.size:=by
    have h0:=hcell 0 (List.length_pos_iff.2 hne)
    rw [List.getElem?_eq_getElem (List.length_pos_iff.2 hne)] at h0
    rcases Nat.lt_or_ge g W.heap.size with h1 | h1
    · exact h1
    · simp [World.cell?,Array.getElem?_eq_none h1] at h0
  refine ⟨g,0,rfl,fun x hx=>⟨by have:=hx.size; omega,fun i hi=>?_⟩⟩
  rw [← hcell i hi,Nat.zero_add]
  simp only [World.cell?,hx.old hlt]
end Go.Proofs.YtepbmdlgdaedpaaGreatDoor
namespace Go.Proofs.YtepbmdlgdaedpaaGreatDoor
open Go.RowKit Go.Dk
theorem Dq:noVal.In:=⟨⟨ ae,ae⟩,⟨ ae,ae⟩⟩
end Go.Proofs.YtepbmdlgdaedpaaGreatDoor
