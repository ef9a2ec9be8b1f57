/- Texts that belong together, one behind the other. -/
import Derived.Test.YtepbmdlgdaedpaaGreatDoorMem
import Derived.OpenShut
import Derived.ShutString
import Derived.ChangeOld
import Derived.Test.YtepbmdlgdaedpaaGreatDoorOwn
import Derived.ChangeSlices
import Derived.SizedLaws
import Derived.Deep.Slices
import Derived.Test.YtepbmdlgdaedpaaGreatDoorBook0
namespace Go.Dk
open Go Go.ChangeShapes Go.WideShapes Go.ChangeAt Go.RowKit
section
variable {H:Type} {enc:TypeId × Value→H} {P:Program} {w:World} {base:Nat} {spare:Nat→Bool} {held:Bool} {t e:TypeId} {v:Value} {d:DataW H} {p:List MemPlace} {r:Reach} {b0:Nat}
def byteOf:Value→UInt8
  | .int _ n=>UInt8.ofNat n.toNat
  | _=>0
theorem byteOf_ok {n:Int} (h:(Lit.int .u8 n).wf=true):Value.int .u8 ((byteOf (.int .u8 n)).toNat:Int)= .int .u8 n:=by
  have hb:0≤n∧n≤255:=by simpa [Lit.wf,IntKind.min,IntKind.max,IntKind.signed,IntKind.bits] using h
  simp only [byteOf,UInt8.toNat_ofNat']
  congr 1
  omega
end
end Go.Dk
namespace Go.Dk
open Go Go.ChangeShapes Go.WideShapes Go.ChangeAt Go.RowKit Go.Deep
section
variable {H:Type} {enc:TypeId × Value→H} {P:Program} {w:World} {held:Bool} {t e:TypeId} {v:Value} {d:DataW H} {p:List MemPlace}
theorem zN {a:Addr} {i:Nat} {u:Value} (h:w.cell? (a.add i)=some u) (hi:i=0):a=⟨a.block,a.off,none⟩:=by
  subst hi
  obtain ⟨b,o,s⟩:=a
  have hs:s=none:=by simpa [Addr.add] using World.cell?_spot h
  subst hs
  rfl
theorem block_lt_of_cell {ad:Addr} {u:Value} (h:w.cell? ad=some u):ad.block<w.heap.size:=by
  unfold World.cell? at h
  rcases Nat.lt_or_ge ad.block w.heap.size with h1 | h1
  · exact h1
  · rw [Array.getElem?_eq_none h1] at h; simp at h
end
end Go.Dk
namespace Go.Dk
open Go Go.ChangeShapes Go.WideShapes Go.ChangeAt Go.RowKit Go.Deep
def Cl (w:World) (A:Option Addr) (W:List Value):Prop:=W≠[]→∃ b o,A=some ⟨b,o,none⟩∧b<w.heap.size∧∀ i,i<W.length→w.cell? ⟨b,o+i,none⟩=W[i]?
theorem Cl.rc {w0:World} {R:List Seg} {A:Option Addr} {W:List Value} (h:Cl w0 A W):Rc w0 R A W:=fun hne=>by
  obtain ⟨b,o,h1,h2,h3⟩:=h hne
  refine ⟨b,o,h1,fun x hx=>⟨by have:=hx.size; omega,fun i hi=>?_⟩⟩
  rw [← h3 i hi]
  simp only [World.cell?,hx.old h2]
theorem jP {α β:Type} {f:α→β} {Pr:α→Prop} (Ws:List β) (h:∀ W∈Ws,∃ x,W=f x∧Pr x):∃ xs:List α,Ws=xs.map f∧∀ x∈xs,Pr x:=by
  induction Ws with
  | nil=>exact ⟨[],rfl,fun _ h=>by cases h⟩
  | cons W Ws ih =>
    obtain ⟨x,hx,hp⟩:=h W (Nu ..)
    obtain ⟨xs,hxs,hps⟩:=ih (fun V hV=>h V (Nw _ hV))
    refine ⟨x::xs,by rw [List.map_cons,hx,hxs],fun y hy=>?_⟩
    rcases List.mem_cons.1 hy with rfl | hy
    · exact hp
    · exact hps y hy
section
variable {H:Type} {enc:TypeId × Value→H} {P:Program} {w:World} {held:Bool} {t e:TypeId} {v:Value} {d:DataW H} {p:List MemPlace} {cs:List Value} {x:DataW H × List MemPlace} {fuel:Nat}
theorem ul {α:Type} (f:α→Value) (xs:List α):(xs.map fun x=>[f x]).flatten=xs.map f:=by
  induction xs with
  | nil=>rfl
  | cons x xs ih=>rw [List.map_cons,List.flatten_cons,ih]; rfl
theorem zH (ht:P.underlying t=some .string) (h:DataW.trod enc P w 0 (fun _=>true) held fuel t cs=some x):∃ s:List UInt8,cs=[aj s]∧s.length≤9223372036854775807:=by
  obtain ⟨s,h1,_,h2⟩:=DataW.trod_string ht h
  exact ⟨s.data.toList,h1,h2⟩
theorem yG {n:Nat} (ht:P.underlying t=some (.array n e)) (he:P.underlying e=some (.int .u8)) (hc:P.cellsOf e=1) (hcs:cs.length=n) (h:DataW.trod enc P w 0 (fun _=>true) held fuel t cs=some x):∃ D:List UInt8,cs=dc D∧D.length=n:=by
  obtain ⟨xs,m,_,_,_,hl,hel⟩:=DataW.trod_array ht h
  refine ⟨cs.map byteOf,?_,by simpa using hcs⟩
  apply List.ext_getElem
  · simp [dc]
  · intro i h1 h2
    have hi:i<n:=by omega
    have h3:=hel i hi
    rw [hc,Nat.mul_one,List.getElem?_eq_getElem ag] at h3
    obtain ⟨z,hz,_,hw⟩:=DataW.trod_int he h3
    have hcell:cs[i]= .int .u8 z:=by
      have h4:(cs.drop i).take 1=[cs[i]'ag]:=by rw [List.drop_eq_getElem_cons ag]; rfl
      rw [h4] at hz
      exact (List.cons.inj hz).1
    simp [dc,hcell,byteOf_ok hw]
theorem dQ (l:List Value) (k m:Nat):l.drop k=(l.drop k).take m++l.drop (k+m):=by
  rw [← List.drop_drop]
  exact (List.take_append_drop m _).symm
theorem kK {k:IntKind} (ht:P.underlying t=some (.int k)) (h:DataW.trod enc P w 0 (fun _=>true) held fuel t cs=some x):∃ n,cs=[.int k n]∧k.min≤n∧n≤k.max:=by
  obtain ⟨n,h1,_,h2⟩:=DataW.trod_int ht h
  exact ⟨n,h1,by simpa [Lit.wf] using h2⟩
theorem lF {r:Reach} {b0:Nat} {A:Option Addr} {n c:Nat} (ht:P.underlying t=some (.slice e)) (hv:Value.okWide P w r b0 t v) (h:v.cells.toList=[.slice A n c]):v= .slice A n c:=by
  cases v with
  | agg cs=>simp [Value.okWide,ht,Cell.okWide,Cell.ok] at hv
  | tuple cs=>simp [Value.okWide,ht,Cell.okWide,Cell.ok] at hv
  | slice _ _ _=>simpa [Value.cells] using h
  | _=>simp [Value.cells] at h
end
end Go.Dk
