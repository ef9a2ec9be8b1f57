/- Texts that belong together, one behind the other. -/
import Derived.Test.YtepbmdlgdaedpaaGreatDoorCell
import Derived.Test.YtepbmdlgdaedpaaGreatDoorLt
import Derived.Test.YtepbmdlgdaedpaaGreatDoorSt1
namespace Go.Dk
open Go Go.ChangeShapes Go.WideShapes Go.ChangeAt Go.RowKit Go.Deep
section
variable {H:Type} {enc:TypeId × Value→H} {P:Program} {w:World} {held:Bool} {t e:TypeId} {v:Value} {d:DataW H} {p:List MemPlace}
theorem wP {t e:TypeId} {es sp:List (DataW H)} {d:DataW H} (hu:P.underlying t=some (.slice e)) (hd:d∈es) {x:Nat} (hx:x∈DataW.weights P e d):x∈DataW.weights P t (.slice es sp):=by
  rw [DataW.weights,hu]
  refine Nw _ (Nr _ ?_)
  induction es with
  | nil=>cases hd
  | cons y r ih =>
    rw [DataW.weightsAll]
    rcases List.mem_cons.1 hd with rfl | h
    · exact Nr _ hx
    · exact Ns _ (ih h)
end
end Go.Dk
namespace Go.Dk
open Go Go.ChangeShapes Go.WideShapes Go.ChangeAt Go.RowKit Go.Deep
section
variable {H:Type} {enc:TypeId × Value→H} {P:Program} {w:World} {held:Bool} {t e:TypeId} {v:Value} {d:DataW H} {p:List MemPlace} {cs:List Value} {x:DataW H × List MemPlace} {fuel:Nat}
theorem wo {sz:Nat} (ht:P.underlying t=some (.slice e)) (hsz:P.cellsOf e=sz) (hpos:0<sz) (h:DataW.trod enc P w 0 (fun _=>true) held fuel t cs=some x) :
    ∃ (A:Option Addr) (Ws:List (List Value)) (c:Nat),cs=[.slice A Ws.length c]∧Ws.length≤c∧Ws.length≤9223372036854775807∧(∀ W∈Ws,W.length=sz∧∃ m y,DataW.trod enc P w 0 (fun _=>true) held m e W=some y∧∃ es sp,x.1= .slice es sp∧y.1∈es)∧(Ws.length=0∨∃ es sp,x.1= .slice es sp∧es.length=Ws.length)∧Cl w A Ws.flatten:=by
  rcases DataW.trod_slice ht h with ⟨hcs,hx⟩ | ⟨a,len,cap,elems,rest,m,_,hcs,hx,_,hlc,hcm,hel,hget,_,_⟩
  · exact ⟨none,[],0,hcs,Nv _,ae,(fun _ h=>by cases h),.inl rfl,fun h=>absurd rfl h⟩
  · have hmx:maxLen=9223372036854775807:=rfl
    rw [hsz] at hget
    have each:∀ i,i<len→∃ (y:List Value × (DataW H × List MemPlace)),w.cells? 0 (a.add (i*sz)) sz=some y.1∧DataW.trod enc P w 0 (fun _=>true) held m e y.1=some y.2∧elems[i]? = some y.2:=by
      intro i hi
      have h1:=hget i hi
      have h2:elems[i]? = some (elems[i]'ag):=List.getElem?_eq_getElem ag
      rw [h2] at h1
      obtain ⟨cs,h3,h4⟩:=Option.bind_eq_some_iff.1 h1
      exact ⟨(cs,elems[i]'ag),h3,h4,h2⟩
    obtain ⟨y,hy⟩:=choose_lt each
    have hws:∀ W∈(List.range len).map (fun i=>(y i).1),W.length=sz∧∃ m y,DataW.trod enc P w 0 (fun _=>true) held m e W=some y∧∃ es sp,x.1= .slice es sp∧y.1∈es:=by
      intro W hW
      obtain ⟨i,hi,rfl⟩:=List.mem_map.1 hW
      have hi:=List.mem_range.1 hi
      obtain ⟨_,hl1,_⟩:=World.cells?_some (hy i hi).1
      exact ⟨hl1,m,_,(hy i hi).2.1,_,_,(Prod.mk.inj hx).1,List.mem_map.2 ⟨_,List.mem_of_getElem? (hy i hi).2.2,rfl⟩⟩
    refine ⟨some a,(List.range len).map (fun i=>(y i).1),cap,by simp [hcs],by simp; omega,by simp; omega,hws,.inr ⟨_,_,(Prod.mk.inj hx).1,by simp; omega⟩,fun hne=>?_⟩
    have hn:0<len:=by
      rcases Nat.eq_zero_or_pos len with h0 | h0
      · subst h0; simp at hne
      · exact h0
    obtain ⟨_,hl0,h0⟩:=World.cells?_some (hy 0 hn).1
    have h00:=h0 0 hpos
    rw [List.getElem?_eq_getElem ag] at h00
    have e0:a.add (0*sz)=a:=by rw [Nat.zero_mul]; simp [Addr.add]
    rw [e0] at h00
    have hp:=zN h00 rfl
    refine ⟨a.block,a.off,by rw [← hp],?_,fun k hk=>?_⟩
    · have:=block_lt_of_cell h00
      simpa [Addr.add] using this
    · rw [xY (fun W hW=>(hws W hW).1)] at hk
      simp only [List.length_map,List.length_range] at hk
      have hkd:k/sz<len:=(Nat.div_lt_iff_lt_mul hpos).2 hk
      have hkm:=Nat.mod_lt k hpos
      have hke:=Nat.div_add_mod k sz
      rw [Nat.mul_comm] at hke
      obtain ⟨hat,hle⟩:=flat_at (z:=sz) (Ws:=(List.range len).map (fun i=>(y i).1)) (V:=(y (k/sz)).1) (i:=k/sz) (fun W hW=>(hws W hW).1) (by rw [List.getElem?_map,List.getElem?_range hkd]; rfl)
      obtain ⟨_,_,h1⟩:=World.cells?_some (hy (k/sz) hkd).1
      have h2:=h1 (k%sz) hkm
      rw [hp,Addr.add_mid,Addr.add_mid,Nat.add_assoc,hke] at h2
      rw [h2,← hat,List.getElem?_take,if_pos hkm,List.getElem?_drop,hke]
def Small (P:Program) (t:TypeId) (d:DataW H):Prop:=∀ k∈DataW.weights P t d,k≤reachBytes
theorem wZ {ts:List TypeId} {ds:List (DataW H)} {j:Nat} (hz:(DataW.weightsEach P ts ds).all (· ≤ reachBytes)=true) (ht:ts[j]? = some t) (hd:ds[j]? = some d):Small P t d:=fun k hk=>by
  simpa using List.all_eq_true.1 hz _ (DataW.weights_mem_each ht hd _ hk)
theorem iW {sz bytes:Nat} (ht:P.underlying t=some (.slice e)) (hsz:P.cellsOf e=sz) (hpos:0<sz) (hb:P.bytesOf e=bytes) (hz:Small P t x.1) (h:DataW.trod enc P w 0 (fun _=>true) held fuel t cs=some x) :
    ∃ (A:Option Addr) (Ws:List (List Value)) (c:Nat),cs=[.slice A Ws.length c]∧Ws.length≤c∧Ws.length≤9223372036854775807∧(∀ W∈Ws,W.length=sz∧∃ m y,DataW.trod enc P w 0 (fun _=>true) held m e W=some y∧Small P e y.1)∧Ws.length*bytes≤reachBytes∧Cl w A Ws.flatten:=by
  obtain ⟨A,Ws,c,h1,h2,h3,h4,h5,h6⟩:=wo ht hsz hpos h
  refine ⟨A,Ws,c,h1,h2,h3,fun W hW=>?_,?_,h6⟩
  · obtain ⟨hl,m,y,hy,es,sp,hd,hye⟩:=h4 W hW
    refine ⟨hl,m,y,hy,fun k hk=>hz k ?_⟩
    rw [hd]
    exact wP ht hye hk
  · rcases h5 with h5 | ⟨es,sp,hd,hl⟩
    · rw [h5,Nat.zero_mul]; exact Nl _
    · have hm:(es.length+sp.length)*P.bytesOf e∈DataW.weights P t x.1:=by
        rw [hd,DataW.weights,ht]
        exact Nu ..
      have h1:=hz _ hm
      rw [hb,Nat.add_mul,hl] at h1
      omega
end
end Go.Dk
namespace Go.Proofs.YtepbmdlgdaedpaaGreatDoor
open Go.ChangeShapes Go.WideShapes Go.ChangeAt Go.RowKit Go.Dk Go.Deep
theorem Ac:Tryz.prog.cellsOf 3=1:=af
theorem Ju:Tryz.prog.cellsOf 5=1:=af
theorem xB:Tryz.prog.cellsOf 9=1:=af
theorem JQ:Tryz.prog.cellsOf 22=1:=af
theorem JP:Tryz.prog.cellsOf 23=1:=af
theorem Ed:Tryz.prog.cellsOf 25=4:=af
theorem JO:Tryz.prog.cellsOf 26=1:=af
theorem JM:Tryz.prog.cellsOf 27=1:=af
theorem JL:Tryz.prog.cellsOf 29=32:=af
theorem LG:Tryz.prog.bytesOf 5=1:=af
theorem LD:Tryz.prog.bytesOf 9=16:=af
theorem Hz {n:Nat} (h:n*16≤reachBytes):n<8796093022000:=by
  have e:reachBytes=140737488351232:=ae
  omega
theorem oH {H:Type} {enc:TypeId × Value→H} {w:World} {held:Bool} {cs:List Value} {x:DataW H × List MemPlace} {fuel:Nat} (hz:Small Tryz.prog 27 x.1) (h:DataW.trod enc Tryz.prog w 0 (fun _=>true) held fuel 27 cs=some x):∃ (A:Option Addr) (l:List UInt8) (c:Nat),cs=[.slice A l.length c]∧l.length≤c∧l.length≤140737488351232∧Cl w A (dc l):=by
  obtain ⟨A,Ws,c,h1,h2,h3,h4,h7,h5⟩:=iW Nq Ju ae LG hz h
  obtain ⟨l,hl,_⟩:=jP (f:=fun b:UInt8=>[Value.int .u8 (b.toNat:Int)]) (Pr:=fun _=>True) Ws (fun W hW=>by
    obtain ⟨_,m,y,hy,_⟩:=h4 W hW
    obtain ⟨z,hz,_,hw⟩:=DataW.trod_int NI hy
    exact ⟨Go.Dk.byteOf (.int .u8 z),by rw [hz,Go.Dk.byteOf_ok hw],trivial⟩)
  subst hl
  rw [List.length_map] at h1 h2 h3 h7
  rw [Nat.mul_one] at h7
  refine ⟨A,l,c,h1,h2,h7,?_⟩
  have e1:(l.map fun b:UInt8=>[Value.int .u8 (b.toNat:Int)]).flatten=dc l:=ul (fun b:UInt8=>Value.int .u8 (b.toNat:Int)) l
  rwa [e1] at h5
theorem yF {H:Type} {enc:TypeId × Value→H} {w:World} {held:Bool} {cs:List Value} {x:DataW H × List MemPlace} {fuel:Nat} (hz:Small Tryz.prog 23 x.1) (h:DataW.trod enc Tryz.prog w 0 (fun _=>true) held fuel 23 cs=some x):∃ (A:Option Addr) (l:List (List UInt8)) (c:Nat),cs=[.slice A l.length c]∧l.length<8796093022000∧Rc w [] A (l.map aj):=by
  obtain ⟨A,Ws,c,h1,h2,h3,h4,h7,h5⟩:=iW Nk xB ae LD hz h
  obtain ⟨l,hl,_⟩:=jP (f:=fun s=>[aj s]) (Pr:=fun _=>True) Ws (fun W hW=>by
    obtain ⟨hl,m,y,hy,_⟩:=h4 W hW
    obtain ⟨s,hs⟩:=mG Nz hy
    exact ⟨s,hs,trivial⟩)
  subst hl
  rw [List.length_map] at h1 h3 h7
  rw [flat_one] at h5
  exact ⟨A,l,c,h1,Hz h7,h5.rc⟩
set_option maxRecDepth 100000 in
theorem rW {H:Type} {enc:TypeId × Value→H} {w:World} {held:Bool} {cs:List Value} {x:DataW H × List MemPlace} {fuel:Nat} (hlen:cs.length=4) (hz:Small Tryz.prog 25 x.1) (h:DataW.trod enc Tryz.prog w 0 (fun _=>true) held fuel 25 cs=some x):∃ a:VA,cs=a.cells∧a.Ok w []∧a.v.s.length<8796093022000:=by
  obtain ⟨xs,n,_,hxf,_,xsl,xse⟩:=DataW.trod_struct ND h
  have xs2:xs.length=4:=xsl
  have g (i:Nat) (hi:i<4):xs[i]? = some xs[i]:=List.getElem?_eq_getElem ag
  have hdf:x.1= .agg (xs.map (·.1)):=by rw [hxf]
  have f0:DataW.trod enc Tryz.prog w 0 (fun _=>true) held n 22 (((cs).drop 0).take (Tryz.prog.cellsOf 22))=xs[0]? := xse 0 _ rfl
  rw [g 0 ag,JQ] at f0
  have f1:DataW.trod enc Tryz.prog w 0 (fun _=>true) held n 3 (((cs).drop 1).take (Tryz.prog.cellsOf 3))=xs[1]? := xse 1 _ rfl
  rw [g 1 ag,Ac] at f1
  have f2:DataW.trod enc Tryz.prog w 0 (fun _=>true) held n 9 (((cs).drop 2).take (Tryz.prog.cellsOf 9))=xs[2]? := xse 2 _ rfl
  rw [g 2 ag,xB] at f2
  have f3:DataW.trod enc Tryz.prog w 0 (fun _=>true) held n 23 (((cs).drop 3).take (Tryz.prog.cellsOf 23))=xs[3]? := xse 3 _ rfl
  rw [g 3 ag,JP] at f3
  have zf3:Small Tryz.prog 23 xs[3].1:=fun k hk=>hz k (by
    rw [hdf,DataW.weights,ND]
    exact DataW.weights_mem_each (j:=3) (t:=23) (d:=xs[3].1) rfl (by rw [List.getElem?_map,g 3 ag]; rfl) _ hk)
  obtain ⟨k,e0,k1,k2⟩:=kK NH f0
  obtain ⟨z,e1,z1,z2⟩:=kK NC f1
  obtain ⟨t,e2⟩:=mG Nz f2
  obtain ⟨sA,s,sC,e3,hs,hr⟩:=yF zf3 f3
  refine ⟨⟨⟨k,z,t,s⟩,sA,sC⟩,?_,⟨hr,by show s.length≤_; omega,⟨⟨k1,k2⟩,⟨z1,z2⟩⟩⟩,hs⟩
  have s0:=dQ (cs) 0 1
  have s1:=dQ (cs) 1 1
  have s2:=dQ (cs) 2 1
  have s3:=dQ (cs) 3 1
  rw [e0] at s0
  rw [e1] at s1
  rw [e2] at s2
  rw [e3] at s3
  have z3:cs.drop (3+1)=[]:=List.drop_of_length_le ag
  rw [z3] at s3
  rw [List.drop_zero] at s0
  rw [s0,s1,s2,s3]
  simp [VA.cells,Val.cells]
end Go.Proofs.YtepbmdlgdaedpaaGreatDoor
