/- Texts that belong together, one behind the other. -/
import Derived.Test.YtepbmdlgdaedpaaGreatDoorEv7
import Derived.Test.YtepbmdlgdaedpaaGreatDoorCell
import Derived.Lib.LaidTab
namespace Go.Proofs.YtepbmdlgdaedpaaGreatDoor
open Go.ChangeShapes Go.WideShapes Go.ChangeAt Go.RowKit Go.Dk Go.Deep
theorem sW {H:Type} {enc:TypeId × Value→H} {P:Program} {w:World} {base:Nat} {sp:Nat→Bool} {held:Bool} {fuel:Nat} {t e:TypeId} {n:Nat} {cs:List Value} {zs:List (List UInt8)} {p:List MemPlace}
    (ht:P.underlying t=some (.array n e)) (he:P.underlying e=some .string) (hce:P.cellsOf e=1) (hct:P.cellsOf t=n)
    (h:DataW.trod enc P w base sp held fuel t cs=some (.agg (zs.map fun z=> .lit (.string z)),p)):cs=zs.map aj:=by
  cases fuel with
  | zero=>simp [DataW.trod] at h
  | succ fuel =>
    simp only [DataW.trod,ht,hce,hct,Nat.mul_one] at h
    split at h
    · rename_i hl
      obtain ⟨xs,hm,hx⟩:=Option.map_eq_some_iff.1 h
      have hxs:xs.map (·.1)=zs.map fun z=>(DataW.lit (.string z):DataW H):=by
        have:=congrArg Prod.fst hx
        simpa using this
      have hxl:xs.length=n:=by simpa using Go.Lib.mapM_length hm
      have hzl:zs.length=n:=by
        have:=congrArg List.length hxs
        simp at this
        omega
      apply List.ext_getElem?
      intro i
      by_cases hi:i<n
      · obtain ⟨b,hb,hf⟩:=Go.Lib.mapM_at hm i i (by simp [hi])
        obtain ⟨z,hc,rfl,_⟩:=DataW.trod_string he hf
        have h1:cs[i]? = some (.string z):=by
          have:=congrArg (·[0]?) hc
          simpa [List.getElem?_take,List.getElem?_drop] using this
        have h2:(xs.map (·.1))[i]? = some (DataW.lit (.string z.data.toList):DataW H):=by simp [hb]
        rw [hxs] at h2
        simp only [List.getElem?_map,Option.map_eq_some_iff,DataW.lit.injEq,Lit.string.injEq] at h2
        obtain ⟨z',hz',hz2⟩:=h2
        rw [h1,List.getElem?_map,hz',hz2]
        simp [aj]
      · rw [List.getElem?_eq_none ag,List.getElem?_eq_none (by simp; omega)]
    · cases h
theorem mG {H:Type} {enc:TypeId × Value→H} {w:World} {held:Bool} {cs:List Value} {x:DataW H × List MemPlace} {fuel:Nat} {t:TypeId} (ht:Tryz.prog.underlying t=some .string) (h:DataW.trod enc Tryz.prog w 0 (fun _=>true) held fuel t cs=some x):∃ s:List UInt8,cs=[aj s]:=by
  obtain ⟨s,hc,_,_⟩:=DataW.trod_string ht h
  exact ⟨s.data.toList,by rw [hc]⟩
theorem flat_one (l:List (List UInt8)):(l.map fun s=>[aj s]).flatten=l.map aj:=by
  induction l with
  | nil=>rfl
  | cons a l ih=>rw [List.map_cons,List.flatten_cons,ih]; rfl
end Go.Proofs.YtepbmdlgdaedpaaGreatDoor
namespace Go.Proofs.YtepbmdlgdaedpaaGreatDoor
open Go.ChangeShapes Go.WideShapes Go.ChangeAt Go.RowKit Go.Dk Go.Deep
theorem G7 {W:World} {name:String} {zs:List (List UInt8)} {rest:List (String × DataW Unit)} {t e:TypeId} {n g:Nat} {P:Program}
    (hg:P.globalNamed name=some g) (hty:(P.globals[g]?).map (·.type)=some t) (ht:P.underlying t=some (.array n e)) (he:P.underlying e=some .string) (hce:P.cellsOf e=1) (hct:P.cellsOf t=n)
    (h:laidMet P ((name,.agg (zs.map fun z=> .lit (.string z)))::rest) W):Rc W [] (some ⟨g,0,none⟩) (zs.map aj):=by
  obtain ⟨ps,⟨g',t',cs,fuel,p,q,hg',ht',hvar,hd,_,_⟩,_⟩:=h
  obtain rfl:=Option.some.inj (hg.symm.trans hg')
  obtain rfl:=Option.some.inj (hty.symm.trans ht')
  have hcs:=sW ht he hce hct hd
  obtain rfl:cs=(zs.map aj).toArray:=by rw [← hcs]
  intro hne
  have hcell:∀ i,i<(zs.map aj).length→W.cell? ⟨g,i,none⟩=(zs.map aj)[i]? := fun i hi=>by
    have:=World.var?_cell hg hvar i
    simpa using this
  have hlt:g<W.heap.size:=by
    have h0:=hcell 0 (List.length_pos_iff.2 hne)
    rw [List.getElem?_eq_getElem (List.length_pos_iff.2 hne)] at h0
    rcases Nat.lt_or_ge g W.heap.size with h1 | h1
    · exact h1
    · simp [World.cell?,Array.getElem?_eq_none h1] at h0
  refine ⟨g,0,rfl,fun x hx=>⟨by have:=hx.size; omega,fun i hi=>?_⟩⟩
  rw [← hcell i hi,Nat.zero_add]
  simp only [World.cell?,hx.old hlt]
end Go.Proofs.YtepbmdlgdaedpaaGreatDoor
