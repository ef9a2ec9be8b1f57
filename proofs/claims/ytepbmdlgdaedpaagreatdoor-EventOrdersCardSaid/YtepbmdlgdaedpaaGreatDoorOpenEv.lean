/- Texts that belong together, one behind the other. -/
import Derived.Test.YtepbmdlgdaedpaaGreatDoorOpenS
import Derived.Test.YtepbmdlgdaedpaaGreatDoorEv
import Derived.Test.YtepbmdlgdaedpaaGreatDoorEv7
import Derived.Lib.LaidTab
namespace Go.Dk
open Go Go.ChangeShapes Go.WideShapes Go.ChangeAt Go.RowKit Go.Deep
def Cl (w:World) (A:Option Addr) (W:List Value):Prop:=W≠[]→∃ b o,A=some ⟨b,o,none⟩∧b<w.heap.size∧∀ i,i<W.length→w.cell? ⟨b,o+i,none⟩=W[i]?
theorem Cl.rc {w0:World} {R:List Seg} {A:Option Addr} {W:List Value} (h:Cl w0 A W):Rc w0 R A W:=fun hne=>by
  obtain ⟨b,o,h1,h2,h3⟩:=h hne
  refine ⟨b,o,h1,fun x hx=>⟨by have:=hx.size; omega,fun i hi=>?_⟩⟩
  rw [← h3 i hi]
  simp only [World.cell?,hx.old h2]
theorem oz {α β:Type} {f:α→β} {Pr:α→Prop} (Ws:List β) (h:∀ W∈Ws,∃ x,W=f x∧Pr x):∃ xs:List α,Ws=xs.map f∧∀ x∈xs,Pr x:=by
  induction Ws with
  | nil=>exact ⟨[],rfl,fun _ h=>by cases h⟩
  | cons W Ws ih =>
    obtain ⟨x,hx,hp⟩:=h W (HY ..)
    obtain ⟨xs,hxs,hps⟩:=ih (fun V hV=>h V (H5 _ hV))
    refine ⟨x::xs,by rw [List.map_cons,hx,hxs],fun y hy=>?_⟩
    rcases List.mem_cons.1 hy with rfl | hy
    · exact hp
    · exact hps y hy
section
variable {H:Type} {enc:TypeId × Value→H} {P:Program} {w:World} {held:Bool} {t e:TypeId} {v:Value} {d:DataW H} {p:List MemPlace} {cs:List Value} {x:DataW H × List MemPlace} {fuel:Nat}
theorem l7 {n:Nat} (ht:P.underlying t=some (.array n e)) (he:P.underlying e=some (.int .u8)) (hc:P.cellsOf e=1) (hcs:cs.length=n) (h:DataW.trod enc P w 0 (fun _=>true) held fuel t cs=some x):∃ D:List UInt8,cs=dc D∧D.length=n:=by
  obtain ⟨xs,m,_,_,_,hl,hel⟩:=DataW.trod_array ht h
  refine ⟨cs.map byteOf,?_,by simpa using hcs⟩
  apply List.ext_getElem
  · simp [dc]
  · intro i h1 h2
    have hi:i<n:=by omega
    have h3:=hel i hi
    rw [hc,Nat.mul_one,List.getElem?_eq_getElem ag] at h3
    obtain ⟨z,hz,_,hw⟩:=DataW.trod_int he h3
    have hcell:cs[i]= .int .u8 z:=by
      have h4:(cs.drop i).take 1=[cs[i]'ag]:=by rw [List.drop_eq_getElem_cons ag]; rfl
      rw [h4] at hz
      exact (List.cons.inj hz).1
    simp [dc,hcell,yI hw]
theorem oD (l:List Value) (k m:Nat):l.drop k=(l.drop k).take m++l.drop (k+m):=by
  rw [← List.drop_drop]
  exact (List.take_append_drop m _).symm
theorem yE {k:IntKind} (ht:P.underlying t=some (.int k)) (h:DataW.trod enc P w 0 (fun _=>true) held fuel t cs=some x):∃ n,cs=[.int k n]∧k.min≤n∧n≤k.max:=by
  obtain ⟨n,h1,_,h2⟩:=DataW.trod_int ht h
  exact ⟨n,h1,by simpa [Lit.wf] using h2⟩
theorem jI {r:Reach} {b0:Nat} {A:Option Addr} {n c:Nat} (ht:P.underlying t=some (.slice e)) (hv:Value.okWide P w r b0 t v) (h:v.cells.toList=[.slice A n c]):v= .slice A n c:=by
  cases v with
  | agg cs=>simp [Value.okWide,ht,Cell.okWide,Cell.ok] at hv
  | tuple cs=>simp [Value.okWide,ht,Cell.okWide,Cell.ok] at hv
  | slice _ _ _=>simpa [Value.cells] using h
  | _=>simp [Value.cells] at h
end
end Go.Dk
namespace Go.Proofs.YtepbmdlgdaedpaaGreatDoor
open Go.ChangeShapes Go.WideShapes Go.ChangeAt Go.RowKit Go.Dk Go.Deep
theorem oU {H:Type} {enc:TypeId × Value→H} {P:Program} {w:World} {base:Nat} {sp:Nat→Bool} {held:Bool} {fuel:Nat} {t e:TypeId} {n:Nat} {cs:List Value} {zs:List (List UInt8)} {p:List MemPlace}
    (ht:P.underlying t=some (.array n e)) (he:P.underlying e=some .string) (hce:P.cellsOf e=1) (hct:P.cellsOf t=n)
    (h:DataW.trod enc P w base sp held fuel t cs=some (.agg (zs.map fun z=> .lit (.string z)),p)):cs=zs.map ak:=by
  cases fuel with
  | zero=>simp [DataW.trod] at h
  | succ fuel =>
    simp only [DataW.trod,ht,hce,hct,Nat.mul_one] at h
    split at h
    · rename_i hl
      obtain ⟨xs,hm,hx⟩:=Option.map_eq_some_iff.1 h
      have hxs:xs.map (·.1)=zs.map fun z=>(DataW.lit (.string z):DataW H):=by
        have:=congrArg Prod.fst hx
        simpa using this
      have hxl:xs.length=n:=by simpa using Go.Lib.mapM_length hm
      have hzl:zs.length=n:=by
        have:=congrArg List.length hxs
        simp at this
        omega
      apply List.ext_getElem?
      intro i
      by_cases hi:i<n
      · obtain ⟨b,hb,hf⟩:=Go.Lib.mapM_at hm i i (by simp [hi])
        obtain ⟨z,hc,rfl,_⟩:=DataW.trod_string he hf
        have h1:cs[i]? = some (.string z):=by
          have:=congrArg (·[0]?) hc
          simpa [List.getElem?_take,List.getElem?_drop] using this
        have h2:(xs.map (·.1))[i]? = some (DataW.lit (.string z.data.toList):DataW H):=by simp [hb]
        rw [hxs] at h2
        simp only [List.getElem?_map,Option.map_eq_some_iff,DataW.lit.injEq,Lit.string.injEq] at h2
        obtain ⟨z',hz',hz2⟩:=h2
        rw [h1,List.getElem?_map,hz',hz2]
        simp [ak]
      · rw [List.getElem?_eq_none ag,List.getElem?_eq_none (by simp; omega)]
    · cases h
theorem yD {H:Type} {enc:TypeId × Value→H} {w:World} {held:Bool} {cs:List Value} {x:DataW H × List MemPlace} {fuel:Nat} {t:TypeId} (ht:Tryz.prog.underlying t=some .string) (h:DataW.trod enc Tryz.prog w 0 (fun _=>true) held fuel t cs=some x):∃ s:List UInt8,cs=[ak s]:=by
  obtain ⟨s,hc,_,_⟩:=DataW.trod_string ht h
  exact ⟨s.data.toList,by rw [hc]⟩
theorem flat_one (l:List (List UInt8)):(l.map fun s=>[ak s]).flatten=l.map ak:=by
  induction l with
  | nil=>rfl
  | cons a l ih=>rw [List.map_cons,List.flatten_cons,ih]; rfl
end Go.Proofs.YtepbmdlgdaedpaaGreatDoor
