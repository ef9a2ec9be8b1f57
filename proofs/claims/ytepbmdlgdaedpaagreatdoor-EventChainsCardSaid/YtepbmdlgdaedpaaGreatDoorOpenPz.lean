/- Texts that belong together, one behind the other. -/
import Derived.Test.YtepbmdlgdaedpaaGreatDoorOpenR
namespace Go.Dk
open Go Go.ChangeShapes Go.WideShapes Go.ChangeAt Go.RowKit Go.Deep
section
variable {H:Type} {enc:TypeId × Value→H} {P:Program} {w:World} {held:Bool} {t e:TypeId} {v:Value} {d:DataW H} {p:List MemPlace} {cs:List Value} {x:DataW H × List MemPlace} {fuel:Nat}
theorem wF {sz:Nat} (ht:P.underlying t=some (.slice e)) (hsz:P.cellsOf e=sz) (hpos:0<sz) (h:DataW.trod enc P w 0 (fun _=>true) held fuel t cs=some x) :
    ∃ (A:Option Addr) (Ws:List (List Value)) (c:Nat),cs=[.slice A Ws.length c]∧Ws.length≤c∧Ws.length≤9223372036854775807∧(∀ W∈Ws,W.length=sz∧∃ m y,DataW.trod enc P w 0 (fun _=>true) held m e W=some y∧∃ es sp,x.1= .slice es sp∧y.1∈es)∧(Ws.length=0∨∃ es sp,x.1= .slice es sp∧es.length=Ws.length)∧Cl w A Ws.flatten:=by
  rcases DataW.trod_slice ht h with ⟨hcs,hx⟩ | ⟨a,len,cap,elems,rest,m,_,hcs,hx,_,hlc,hcm,hel,hget,_,_⟩
  · exact ⟨none,[],0,hcs,NV _,ae,(fun _ h=>by cases h),.inl rfl,fun h=>absurd rfl h⟩
  · have hmx:maxLen=9223372036854775807:=rfl
    rw [hsz] at hget
    have each:∀ i,i<len→∃ (y:List Value × (DataW H × List MemPlace)),w.cells? 0 (a.add (i*sz)) sz=some y.1∧DataW.trod enc P w 0 (fun _=>true) held m e y.1=some y.2∧elems[i]? = some y.2:=by
      intro i hi
      have h1:=hget i hi
      have h2:elems[i]? = some (elems[i]'ag):=List.getElem?_eq_getElem ag
      rw [h2] at h1
      obtain ⟨cs,h3,h4⟩:=Option.bind_eq_some_iff.1 h1
      exact ⟨(cs,elems[i]'ag),h3,h4,h2⟩
    obtain ⟨y,hy⟩:=choose_lt each
    have hws:∀ W∈(List.range len).map (fun i=>(y i).1),W.length=sz∧∃ m y,DataW.trod enc P w 0 (fun _=>true) held m e W=some y∧∃ es sp,x.1= .slice es sp∧y.1∈es:=by
      intro W hW
      obtain ⟨i,hi,rfl⟩:=List.mem_map.1 hW
      have hi:=List.mem_range.1 hi
      obtain ⟨_,hl1,_⟩:=World.cells?_some (hy i hi).1
      exact ⟨hl1,m,_,(hy i hi).2.1,_,_,(Prod.mk.inj hx).1,List.mem_map.2 ⟨_,List.mem_of_getElem? (hy i hi).2.2,rfl⟩⟩
    refine ⟨some a,(List.range len).map (fun i=>(y i).1),cap,by simp [hcs],by simp; omega,by simp; omega,hws,.inr ⟨_,_,(Prod.mk.inj hx).1,by simp; omega⟩,fun hne=>?_⟩
    have hn:0<len:=by
      rcases Nat.eq_zero_or_pos len with h0 | h0
      · subst h0; simp at hne
      · exact h0
    obtain ⟨_,hl0,h0⟩:=World.cells?_some (hy 0 hn).1
    have h00:=h0 0 hpos
    rw [List.getElem?_eq_getElem ag] at h00
    have e0:a.add (0*sz)=a:=by rw [Nat.zero_mul]; simp [Addr.add]
    rw [e0] at h00
    have hp:=sO h00 rfl
    refine ⟨a.block,a.off,by rw [← hp],?_,fun k hk=>?_⟩
    · have:=block_lt_of_cell h00
      simpa [Addr.add] using this
    · rw [rX (fun W hW=>(hws W hW).1)] at hk
      simp only [List.length_map,List.length_range] at hk
      have hkd:k/sz<len:=(Nat.div_lt_iff_lt_mul hpos).2 hk
      have hkm:=Nat.mod_lt k hpos
      have hke:=Nat.div_add_mod k sz
      rw [Nat.mul_comm] at hke
      obtain ⟨hat,hle⟩:=flat_at (z:=sz) (Ws:=(List.range len).map (fun i=>(y i).1)) (V:=(y (k/sz)).1) (i:=k/sz) (fun W hW=>(hws W hW).1) (by rw [List.getElem?_map,List.getElem?_range hkd]; rfl)
      obtain ⟨_,_,h1⟩:=World.cells?_some (hy (k/sz) hkd).1
      have h2:=h1 (k%sz) hkm
      rw [hp,Addr.add_mid,Addr.add_mid,Nat.add_assoc,hke] at h2
      rw [h2,← hat,List.getElem?_take,if_pos hkm,List.getElem?_drop,hke]
def Small (P:Program) (t:TypeId) (d:DataW H):Prop:=∀ k∈DataW.weights P t d,k≤reachBytes
theorem EE {ts:List TypeId} {ds:List (DataW H)} {j:Nat} (hz:(DataW.weightsEach P ts ds).all (· ≤ reachBytes)=true) (ht:ts[j]? = some t) (hd:ds[j]? = some d):Small P t d:=fun k hk=>by
  simpa using List.all_eq_true.1 hz _ (DataW.weights_mem_each ht hd _ hk)
theorem oO {sz bytes:Nat} (ht:P.underlying t=some (.slice e)) (hsz:P.cellsOf e=sz) (hpos:0<sz) (hb:P.bytesOf e=bytes) (hz:Small P t x.1) (h:DataW.trod enc P w 0 (fun _=>true) held fuel t cs=some x) :
    ∃ (A:Option Addr) (Ws:List (List Value)) (c:Nat),cs=[.slice A Ws.length c]∧Ws.length≤c∧Ws.length≤9223372036854775807∧(∀ W∈Ws,W.length=sz∧∃ m y,DataW.trod enc P w 0 (fun _=>true) held m e W=some y∧Small P e y.1)∧Ws.length*bytes≤reachBytes∧Cl w A Ws.flatten:=by
  obtain ⟨A,Ws,c,h1,h2,h3,h4,h5,h6⟩:=wF ht hsz hpos h
  refine ⟨A,Ws,c,h1,h2,h3,fun W hW=>?_,?_,h6⟩
  · obtain ⟨hl,m,y,hy,es,sp,hd,hye⟩:=h4 W hW
    refine ⟨hl,m,y,hy,fun k hk=>hz k ?_⟩
    rw [hd]
    exact wU ht hye hk
  · rcases h5 with h5 | ⟨es,sp,hd,hl⟩
    · rw [h5,Nat.zero_mul]; exact NR _
    · have hm:(es.length+sp.length)*P.bytesOf e∈DataW.weights P t x.1:=by
        rw [hd,DataW.weights,ht]
        exact NT ..
      have h1:=hz _ hm
      rw [hb,Nat.add_mul,hl] at h1
      omega
end
end Go.Dk
namespace Go.Proofs.YtepbmdlgdaedpaaGreatDoor
open Go.ChangeShapes Go.WideShapes Go.ChangeAt Go.RowKit Go.Dk Go.Deep
theorem ML:Tryz.prog.bytesOf 5=1:=af
theorem wG {H:Type} {enc:TypeId × Value→H} {w:World} {held:Bool} {cs:List Value} {x:DataW H × List MemPlace} {fuel:Nat} (hz:Small Tryz.prog 27 x.1) (h:DataW.trod enc Tryz.prog w 0 (fun _=>true) held fuel 27 cs=some x):∃ (A:Option Addr) (l:List UInt8) (c:Nat),cs=[.slice A l.length c]∧l.length≤c∧l.length≤140737488351232∧Cl w A (dc l):=by
  obtain ⟨A,Ws,c,h1,h2,h3,h4,h7,h5⟩:=oO NQ J5 ae ML hz h
  obtain ⟨l,hl,_⟩:=kJ (f:=fun b:UInt8=>[Value.int .u8 (b.toNat:Int)]) (Pr:=fun _=>True) Ws (fun W hW=>by
    obtain ⟨_,m,y,hy,_⟩:=h4 W hW
    obtain ⟨z,hz,_,hw⟩:=DataW.trod_int Oi hy
    exact ⟨Go.Dk.byteOf (.int .u8 z),by rw [hz,Go.Dk.byteOf_ok hw],trivial⟩)
  subst hl
  rw [List.length_map] at h1 h2 h3 h7
  rw [Nat.mul_one] at h7
  refine ⟨A,l,c,h1,h2,h7,?_⟩
  have e1:(l.map fun b:UInt8=>[Value.int .u8 (b.toNat:Int)]).flatten=dc l:=pJ (fun b:UInt8=>Value.int .u8 (b.toNat:Int)) l
  rwa [e1] at h5
end Go.Proofs.YtepbmdlgdaedpaaGreatDoor
namespace Go.Proofs.YtepbmdlgdaedpaaGreatDoor
open Go.ChangeShapes Go.WideShapes Go.ChangeAt Go.RowKit Go.Dk Go.Deep
theorem KP:Tryz.prog.bytesOf 27=24:=af
theorem tY {H:Type} {enc:TypeId × Value→H} {w:World} {held:Bool} {cs:List Value} {x:DataW H × List MemPlace} {fuel:Nat} (hz:Small Tryz.prog 63 x.1) (h:DataW.trod enc Tryz.prog w 0 (fun _=>true) held fuel 63 cs=some x):∃ (A:Option Addr) (ps:List Piece) (c:Nat),cs=[.slice A ps.length c]∧ps.length≤9223372036854775807∧PcS w [] A ps∧∀ p∈ps,p.2.2.length≤140737488351232:=by
  obtain ⟨A,Ws,c,h1,h2,h3,h4,h7,h5⟩:=oO Oq KT ae KP hz h
  obtain ⟨ps,hps,hok⟩:=kJ (f:=fun p:Piece=>[rH p]) (Pr:=fun p=>(p.2.2.length≤p.2.1∧Rd w [] p.1 p.2.2)∧p.2.2.length≤140737488351232) Ws (fun W hW=>by
    obtain ⟨hl,m,y,hy,hyz⟩:=h4 W hW
    obtain ⟨A,l,c,e1,e2,e3,e4⟩:=wG hyz hy
    exact ⟨(A,c,l),e1,⟨e2,e4.rc⟩,e3⟩)
  subst hps
  rw [List.length_map] at h1 h3
  have e1:(ps.map fun p=>[rH p]).flatten=ps.map rH:=pJ rH ps
  rw [e1] at h5
  exact ⟨A,ps,c,h1,h3,⟨h5.rc,fun p hp=>(hok p hp).1⟩,fun p hp=>(hok p hp).2⟩
set_option maxRecDepth 100000 in
theorem vJ {H:Type} {enc:TypeId × Value→H} {w:World} {held:Bool} {v:Value} {d:DataW H} {p:List MemPlace} {r:Reach} {b0:Nat} (hv:Value.okWide Tryz.prog w r b0 63 v) (h:DataW.Trod enc Tryz.prog w 0 (fun _=>true) held 63 v d p) (hz:Small Tryz.prog 63 d):∃ (A:Option Addr) (ps:List Piece) (c:Nat),v= .slice A ps.length c∧ps.length≤9223372036854775807∧PcS w [] A ps∧∀ p∈ps,p.2.2.length≤140737488351232:=by
  obtain ⟨fuel,hf⟩:=h
  obtain ⟨A,ps,c,h1,h2⟩:=tY (x:=(d,p)) hz hf
  exact ⟨A,ps,c,rq Oq hv h1,h2⟩
end Go.Proofs.YtepbmdlgdaedpaaGreatDoor
