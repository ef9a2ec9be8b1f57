/- Texts that belong together, one behind the other. -/
import Derived.Test.YtepbmdlgdaedpaaGreatDoorOpenS
import Derived.Test.YtepbmdlgdaedpaaGreatDoorHs
import Derived.Test.YtepbmdlgdaedpaaGreatDoorEv7
import Derived.Lib.LaidTab
namespace Go.Dk
open Go Go.ChangeShapes Go.WideShapes Go.ChangeAt Go.RowKit Go.Deep
def Cl (w:World) (A:Option Addr) (W:List Value):Prop:=W≠[]→∃ b o,A=some ⟨b,o,none⟩∧b<w.heap.size∧∀ i,i<W.length→w.cell? ⟨b,o+i,none⟩=W[i]?
theorem Cl.rc {w0:World} {R:List Seg} {A:Option Addr} {W:List Value} (h:Cl w0 A W):Rc w0 R A W:=fun hne=>by
  obtain ⟨b,o,h1,h2,h3⟩:=h hne
  refine ⟨b,o,h1,fun x hx=>⟨by have:=hx.size; omega,fun i hi=>?_⟩⟩
  rw [← h3 i hi]
  simp only [World.cell?,hx.old h2]
theorem yu {α β:Type} {f:α→β} {Pr:α→Prop} (Ws:List β) (h:∀ W∈Ws,∃ x,W=f x∧Pr x):∃ xs:List α,Ws=xs.map f∧∀ x∈xs,Pr x:=by
  induction Ws with
  | nil=>exact ⟨[],rfl,fun _ h=>by cases h⟩
  | cons W Ws ih =>
    obtain ⟨x,hx,hp⟩:=h W (La ..)
    obtain ⟨xs,hxs,hps⟩:=ih (fun V hV=>h V (Lc _ hV))
    refine ⟨x::xs,by rw [List.map_cons,hx,hxs],fun y hy=>?_⟩
    rcases List.mem_cons.1 hy with rfl | hy
    · exact hp
    · exact hps y hy
section
variable {H:Type} {enc:TypeId × Value→H} {P:Program} {w:World} {held:Bool} {t e:TypeId} {v:Value} {d:DataW H} {p:List MemPlace} {cs:List Value} {x:DataW H × List MemPlace} {fuel:Nat}
theorem AO {α:Type} (f:α→Value) (xs:List α):(xs.map fun x=>[f x]).flatten=xs.map f:=by
  induction xs with
  | nil=>rfl
  | cons x xs ih=>rw [List.map_cons,List.flatten_cons,ih]; rfl
theorem o6 {r:Reach} {b0:Nat} {A:Option Addr} {n c:Nat} (ht:P.underlying t=some (.slice e)) (hv:Value.okWide P w r b0 t v) (h:v.cells.toList=[.slice A n c]):v= .slice A n c:=by
  cases v with
  | agg cs=>simp [Value.okWide,ht,Cell.okWide,Cell.ok] at hv
  | tuple cs=>simp [Value.okWide,ht,Cell.okWide,Cell.ok] at hv
  | slice _ _ _=>simpa [Value.cells] using h
  | _=>simp [Value.cells] at h
end
end Go.Dk
namespace Go.Proofs.YtepbmdlgdaedpaaGreatDoor
open Go.ChangeShapes Go.WideShapes Go.ChangeAt Go.RowKit Go.Dk Go.Deep
theorem qW {H:Type} {enc:TypeId × Value→H} {P:Program} {w:World} {base:Nat} {sp:Nat→Bool} {held:Bool} {fuel:Nat} {t e:TypeId} {n:Nat} {cs:List Value} {zs:List (List UInt8)} {p:List MemPlace}
    (ht:P.underlying t=some (.array n e)) (he:P.underlying e=some .string) (hce:P.cellsOf e=1) (hct:P.cellsOf t=n)
    (h:DataW.trod enc P w base sp held fuel t cs=some (.agg (zs.map fun z=> .lit (.string z)),p)):cs=zs.map ak:=by
  cases fuel with
  | zero=>simp [DataW.trod] at h
  | succ fuel =>
    simp only [DataW.trod,ht,hce,hct,Nat.mul_one] at h
    split at h
    · rename_i hl
      obtain ⟨xs,hm,hx⟩:=Option.map_eq_some_iff.1 h
      have hxs:xs.map (·.1)=zs.map fun z=>(DataW.lit (.string z):DataW H):=by
        have:=congrArg Prod.fst hx
        simpa using this
      have hxl:xs.length=n:=by simpa using Go.Lib.mapM_length hm
      have hzl:zs.length=n:=by
        have:=congrArg List.length hxs
        simp at this
        omega
      apply List.ext_getElem?
      intro i
      by_cases hi:i<n
      · obtain ⟨b,hb,hf⟩:=Go.Lib.mapM_at hm i i (by simp [hi])
        obtain ⟨z,hc,rfl,_⟩:=DataW.trod_string he hf
        have h1:cs[i]? = some (.string z):=by
          have:=congrArg (·[0]?) hc
          simpa [List.getElem?_take,List.getElem?_drop] using this
        have h2:(xs.map (·.1))[i]? = some (DataW.lit (.string z.data.toList):DataW H):=by simp [hb]
        rw [hxs] at h2
        simp only [List.getElem?_map,Option.map_eq_some_iff,DataW.lit.injEq,Lit.string.injEq] at h2
        obtain ⟨z',hz',hz2⟩:=h2
        rw [h1,List.getElem?_map,hz',hz2]
        simp [ak]
      · rw [List.getElem?_eq_none ag,List.getElem?_eq_none (by simp; omega)]
    · cases h
theorem flat_one (l:List (List UInt8)):(l.map fun s=>[ak s]).flatten=l.map ak:=by
  induction l with
  | nil=>rfl
  | cons a l ih=>rw [List.map_cons,List.flatten_cons,ih]; rfl
end Go.Proofs.YtepbmdlgdaedpaaGreatDoor
