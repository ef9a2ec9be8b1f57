/- Texts that belong together, one behind the other. -/
import Derived.Test.YtepbmdlgdaedpaaGreatDoorMem
import Derived.OpenShut
import Derived.ShutString
import Derived.ChangeOld
import Derived.Test.YtepbmdlgdaedpaaGreatDoorStep
import Derived.ChangeSlices
import Derived.SizedLaws
import Derived.Deep.Slices
import Derived.Test.YtepbmdlgdaedpaaGreatDoorHs
namespace Go.Dk
open Go Go.ChangeShapes Go.WideShapes Go.ChangeAt Go.RowKit
section
variable {H:Type} {enc:TypeId × Value→H} {P:Program} {w:World} {base:Nat} {spare:Nat→Bool} {held:Bool} {t e:TypeId} {v:Value} {d:DataW H} {p:List MemPlace} {r:Reach} {b0:Nat}
def byteOf:Value→UInt8
  | .int _ n=>UInt8.ofNat n.toNat
  | _=>0
theorem byteOf_ok {n:Int} (h:(Lit.int .u8 n).wf=true):Value.int .u8 ((byteOf (.int .u8 n)).toNat:Int)= .int .u8 n:=by
  have hb:0≤n∧n≤255:=by simpa [Lit.wf,IntKind.min,IntKind.max,IntKind.signed,IntKind.bits] using h
  simp only [byteOf,UInt8.toNat_ofNat']
  congr 1
  omega
end
end Go.Dk
namespace Go.Dk
open Go Go.ChangeShapes Go.WideShapes Go.ChangeAt Go.RowKit Go.Deep
section
variable {H:Type} {enc:TypeId × Value→H} {P:Program} {w:World} {held:Bool} {t e:TypeId} {v:Value} {d:DataW H} {p:List MemPlace}
theorem sO {a:Addr} {i:Nat} {u:Value} (h:w.cell? (a.add i)=some u) (hi:i=0):a=⟨a.block,a.off,none⟩:=by
  subst hi
  obtain ⟨b,o,s⟩:=a
  have hs:s=none:=by simpa [Addr.add] using World.cell?_spot h
  subst hs
  rfl
theorem block_lt_of_cell {ad:Addr} {u:Value} (h:w.cell? ad=some u):ad.block<w.heap.size:=by
  unfold World.cell? at h
  rcases Nat.lt_or_ge ad.block w.heap.size with h1 | h1
  · exact h1
  · rw [Array.getElem?_eq_none h1] at h; simp at h
end
end Go.Dk
namespace Go.Dk
open Go Go.ChangeShapes Go.WideShapes Go.ChangeAt Go.RowKit Go.Deep
def Cl (w:World) (A:Option Addr) (W:List Value):Prop:=W≠[]→∃ b o,A=some ⟨b,o,none⟩∧b<w.heap.size∧∀ i,i<W.length→w.cell? ⟨b,o+i,none⟩=W[i]?
theorem Cl.rc {w0:World} {R:List Seg} {A:Option Addr} {W:List Value} (h:Cl w0 A W):Rc w0 R A W:=fun hne=>by
  obtain ⟨b,o,h1,h2,h3⟩:=h hne
  refine ⟨b,o,h1,fun x hx=>⟨by have:=hx.size; omega,fun i hi=>?_⟩⟩
  rw [← h3 i hi]
  simp only [World.cell?,hx.old h2]
theorem kJ {α β:Type} {f:α→β} {Pr:α→Prop} (Ws:List β) (h:∀ W∈Ws,∃ x,W=f x∧Pr x):∃ xs:List α,Ws=xs.map f∧∀ x∈xs,Pr x:=by
  induction Ws with
  | nil=>exact ⟨[],rfl,fun _ h=>by cases h⟩
  | cons W Ws ih =>
    obtain ⟨x,hx,hp⟩:=h W (NT ..)
    obtain ⟨xs,hxs,hps⟩:=ih (fun V hV=>h V (NU _ hV))
    refine ⟨x::xs,by rw [List.map_cons,hx,hxs],fun y hy=>?_⟩
    rcases List.mem_cons.1 hy with rfl | hy
    · exact hp
    · exact hps y hy
section
variable {H:Type} {enc:TypeId × Value→H} {P:Program} {w:World} {held:Bool} {t e:TypeId} {v:Value} {d:DataW H} {p:List MemPlace} {cs:List Value} {x:DataW H × List MemPlace} {fuel:Nat}
theorem mD {sz:Nat} (ht:P.underlying t=some (.slice e)) (hsz:P.cellsOf e=sz) (hpos:0<sz) (h:DataW.trod enc P w 0 (fun _=>true) held fuel t cs=some x) :
    ∃ (A:Option Addr) (Ws:List (List Value)) (c:Nat),cs=[.slice A Ws.length c]∧Ws.length≤c∧Ws.length≤9223372036854775807∧(∀ W∈Ws,W.length=sz∧∃ m y,DataW.trod enc P w 0 (fun _=>true) held m e W=some y)∧Cl w A Ws.flatten:=by
  rcases DataW.trod_slice ht h with ⟨hcs,hx⟩ | ⟨a,len,cap,elems,rest,m,_,hcs,hx,_,hlc,hcm,hel,hget,_,_⟩
  · exact ⟨none,[],0,hcs,NV _,ae,(fun _ h=>by cases h),fun h=>absurd rfl h⟩
  · have hmx:maxLen=9223372036854775807:=rfl
    rw [hsz] at hget
    have each:∀ i,i<len→∃ (y:List Value × (DataW H × List MemPlace)),w.cells? 0 (a.add (i*sz)) sz=some y.1∧DataW.trod enc P w 0 (fun _=>true) held m e y.1=some y.2:=by
      intro i hi
      have h1:=hget i hi
      have h2:elems[i]? = some (elems[i]'ag):=List.getElem?_eq_getElem ag
      rw [h2] at h1
      obtain ⟨cs,h3,h4⟩:=Option.bind_eq_some_iff.1 h1
      exact ⟨(cs,elems[i]'ag),h3,h4⟩
    obtain ⟨y,hy⟩:=choose_lt each
    have hws:∀ W∈(List.range len).map (fun i=>(y i).1),W.length=sz∧∃ m y,DataW.trod enc P w 0 (fun _=>true) held m e W=some y:=by
      intro W hW
      obtain ⟨i,hi,rfl⟩:=List.mem_map.1 hW
      have hi:=List.mem_range.1 hi
      obtain ⟨_,hl1,_⟩:=World.cells?_some (hy i hi).1
      exact ⟨hl1,m,_,(hy i hi).2⟩
    refine ⟨some a,(List.range len).map (fun i=>(y i).1),cap,by simp [hcs],by simp; omega,by simp; omega,hws,fun hne=>?_⟩
    have hn:0<len:=by
      rcases Nat.eq_zero_or_pos len with h0 | h0
      · subst h0; simp at hne
      · exact h0
    obtain ⟨_,hl0,h0⟩:=World.cells?_some (hy 0 hn).1
    have h00:=h0 0 hpos
    rw [List.getElem?_eq_getElem ag] at h00
    have e0:a.add (0*sz)=a:=by rw [Nat.zero_mul]; simp [Addr.add]
    rw [e0] at h00
    have hp:=sO h00 rfl
    refine ⟨a.block,a.off,by rw [← hp],?_,fun k hk=>?_⟩
    · have:=block_lt_of_cell h00
      simpa [Addr.add] using this
    · rw [rX (fun W hW=>(hws W hW).1)] at hk
      simp only [List.length_map,List.length_range] at hk
      have hkd:k/sz<len:=(Nat.div_lt_iff_lt_mul hpos).2 hk
      have hkm:=Nat.mod_lt k hpos
      have hke:=Nat.div_add_mod k sz
      rw [Nat.mul_comm] at hke
      obtain ⟨hat,hle⟩:=flat_at (z:=sz) (Ws:=(List.range len).map (fun i=>(y i).1)) (V:=(y (k/sz)).1) (i:=k/sz) (fun W hW=>(hws W hW).1) (by rw [List.getElem?_map,List.getElem?_range hkd]; rfl)
      obtain ⟨_,_,h1⟩:=World.cells?_some (hy (k/sz) hkd).1
      have h2:=h1 (k%sz) hkm
      rw [hp,Addr.add_mid,Addr.add_mid,Nat.add_assoc,hke] at h2
      rw [h2,← hat,List.getElem?_take,if_pos hkm,List.getElem?_drop,hke]
theorem pJ {α:Type} (f:α→Value) (xs:List α):(xs.map fun x=>[f x]).flatten=xs.map f:=by
  induction xs with
  | nil=>rfl
  | cons x xs ih=>rw [List.map_cons,List.flatten_cons,ih]; rfl
theorem yT (ht:P.underlying t=some (.slice e)) (he:P.underlying e=some (.int .u8)) (hc:P.cellsOf e=1) (h:DataW.trod enc P w 0 (fun _=>true) held fuel t cs=some x) :
    ∃ (A:Option Addr) (l:List UInt8) (c:Nat),cs=[.slice A l.length c]∧l.length≤c∧l.length≤9223372036854775807∧Cl w A (dc l):=by
  obtain ⟨A,Ws,c,h1,h2,h3,h4,h5⟩:=mD ht hc ae h
  obtain ⟨l,hl,_⟩:=kJ (f:=fun b:UInt8=>[Value.int .u8 (b.toNat:Int)]) (Pr:=fun _=>True) Ws (fun W hW=>by
    obtain ⟨_,m,y,hy⟩:=h4 W hW
    obtain ⟨z,hz,_,hw⟩:=DataW.trod_int he hy
    exact ⟨byteOf (.int .u8 z),by rw [hz,byteOf_ok hw],trivial⟩)
  subst hl
  rw [List.length_map] at h1 h2 h3
  refine ⟨A,l,c,h1,h2,h3,?_⟩
  have e1:(l.map fun b:UInt8=>[Value.int .u8 (b.toNat:Int)]).flatten=dc l:=pJ (fun b:UInt8=>Value.int .u8 (b.toNat:Int)) l
  rwa [e1] at h5
theorem qo {n:Nat} (ht:P.underlying t=some (.array n e)) (he:P.underlying e=some (.int .u8)) (hc:P.cellsOf e=1) (hcs:cs.length=n) (h:DataW.trod enc P w 0 (fun _=>true) held fuel t cs=some x):∃ D:List UInt8,cs=dc D∧D.length=n:=by
  obtain ⟨xs,m,_,_,_,hl,hel⟩:=DataW.trod_array ht h
  refine ⟨cs.map byteOf,?_,by simpa using hcs⟩
  apply List.ext_getElem
  · simp [dc]
  · intro i h1 h2
    have hi:i<n:=by omega
    have h3:=hel i hi
    rw [hc,Nat.mul_one,List.getElem?_eq_getElem ag] at h3
    obtain ⟨z,hz,_,hw⟩:=DataW.trod_int he h3
    have hcell:cs[i]= .int .u8 z:=by
      have h4:(cs.drop i).take 1=[cs[i]'ag]:=by rw [List.drop_eq_getElem_cons ag]; rfl
      rw [h4] at hz
      exact (List.cons.inj hz).1
    simp [dc,hcell,byteOf_ok hw]
theorem dw (l:List Value) (k m:Nat):l.drop k=(l.drop k).take m++l.drop (k+m):=by
  rw [← List.drop_drop]
  exact (List.take_append_drop m _).symm
theorem jZ {k:IntKind} (ht:P.underlying t=some (.int k)) (h:DataW.trod enc P w 0 (fun _=>true) held fuel t cs=some x):∃ n,cs=[.int k n]∧k.min≤n∧n≤k.max:=by
  obtain ⟨n,h1,_,h2⟩:=DataW.trod_int ht h
  exact ⟨n,h1,by simpa [Lit.wf] using h2⟩
theorem rq {r:Reach} {b0:Nat} {A:Option Addr} {n c:Nat} (ht:P.underlying t=some (.slice e)) (hv:Value.okWide P w r b0 t v) (h:v.cells.toList=[.slice A n c]):v= .slice A n c:=by
  cases v with
  | agg cs=>simp [Value.okWide,ht,Cell.okWide,Cell.ok] at hv
  | tuple cs=>simp [Value.okWide,ht,Cell.okWide,Cell.ok] at hv
  | slice _ _ _=>simpa [Value.cells] using h
  | _=>simp [Value.cells] at h
end
end Go.Dk
