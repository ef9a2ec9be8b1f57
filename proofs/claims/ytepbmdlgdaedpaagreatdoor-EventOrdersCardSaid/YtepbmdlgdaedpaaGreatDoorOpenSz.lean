/- Openers with the sizes that a row promises. -/
import Derived.Test.YtepbmdlgdaedpaaGreatDoorOpenR
/- Openers with the sizes that a row promises. -/
namespace Go.Dk
open Go Go.ChangeShapes Go.WideShapes Go.ChangeAt Go.RowKit Go.Deep
section
variable {H:Type} {enc:TypeId × Value→H} {P:Program} {w:World} {held:Bool} {t e:TypeId} {v:Value} {d:DataW H} {p:List MemPlace} {cs:List Value} {x:DataW H × List MemPlace} {fuel:Nat}
theorem qR {sz:Nat} (ht:P.underlying t=some (.slice e)) (hsz:P.cellsOf e=sz) (hpos:0<sz) (h:DataW.trod enc P w 0 (fun _=>true) held fuel t cs=some x) :
    ∃ (A:Option Addr) (Ws:List (List Value)) (c:Nat),cs=[.slice A Ws.length c]∧Ws.length≤c∧Ws.length≤9223372036854775807∧(∀ W∈Ws,W.length=sz∧∃ m y,DataW.trod enc P w 0 (fun _=>true) held m e W=some y∧∃ es sp,x.1= .slice es sp∧y.1∈es)∧(Ws.length=0∨∃ es sp,x.1= .slice es sp∧es.length=Ws.length)∧Cl w A Ws.flatten:=by
  rcases DataW.trod_slice ht h with ⟨hcs,hx⟩ | ⟨a,len,cap,elems,rest,m,_,hcs,hx,_,hlc,hcm,hel,hget,_,_⟩
  · exact ⟨none,[],0,hcs,Ib _,ae,(fun _ h=>by cases h),.inl rfl,fun h=>absurd rfl h⟩
  · have hmx:maxLen=9223372036854775807:=rfl
    rw [hsz] at hget
    have each:∀ i,i<len→∃ (y:List Value × (DataW H × List MemPlace)),w.cells? 0 (a.add (i*sz)) sz=some y.1∧DataW.trod enc P w 0 (fun _=>true) held m e y.1=some y.2∧elems[i]? = some y.2:=by
      intro i hi
      have h1:=hget i hi
      have h2:elems[i]? = some (elems[i]'ag):=List.getElem?_eq_getElem ag
      rw [h2] at h1
      obtain ⟨cs,h3,h4⟩:=Option.bind_eq_some_iff.1 h1
      exact ⟨(cs,elems[i]'ag),h3,h4,h2⟩
    obtain ⟨y,hy⟩:=choose_lt each
    have hws:∀ W∈(List.range len).map (fun i=>(y i).1),W.length=sz∧∃ m y,DataW.trod enc P w 0 (fun _=>true) held m e W=some y∧∃ es sp,x.1= .slice es sp∧y.1∈es:=by
      intro W hW
      obtain ⟨i,hi,rfl⟩:=List.mem_map.1 hW
      have hi:=List.mem_range.1 hi
      obtain ⟨_,hl1,_⟩:=World.cells?_some (hy i hi).1
      exact ⟨hl1,m,_,(hy i hi).2.1,_,_,(Prod.mk.inj hx).1,List.mem_map.2 ⟨_,List.mem_of_getElem? (hy i hi).2.2,rfl⟩⟩
    refine ⟨some a,(List.range len).map (fun i=>(y i).1),cap,by simp [hcs],by simp; omega,by simp; omega,hws,.inr ⟨_,_,(Prod.mk.inj hx).1,by simp; omega⟩,fun hne=>?_⟩
    have hn:0<len:=by
      rcases Nat.eq_zero_or_pos len with h0 | h0
      · subst h0; simp at hne
      · exact h0
    obtain ⟨_,hl0,h0⟩:=World.cells?_some (hy 0 hn).1
    have h00:=h0 0 hpos
    rw [List.getElem?_eq_getElem ag] at h00
    have e0:a.add (0*sz)=a:=by rw [Nat.zero_mul]; simp [Addr.add]
    rw [e0] at h00
    have hp:=vK h00 rfl
    refine ⟨a.block,a.off,by rw [← hp],?_,fun k hk=>?_⟩
    · have:=block_lt_of_cell h00
      simpa [Addr.add] using this
    · rw [tC (fun W hW=>(hws W hW).1)] at hk
      simp only [List.length_map,List.length_range] at hk
      have hkd:k/sz<len:=(Nat.div_lt_iff_lt_mul hpos).2 hk
      have hkm:=Nat.mod_lt k hpos
      have hke:=Nat.div_add_mod k sz
      rw [Nat.mul_comm] at hke
      obtain ⟨hat,hle⟩:=flat_at (z:=sz) (Ws:=(List.range len).map (fun i=>(y i).1)) (V:=(y (k/sz)).1) (i:=k/sz) (fun W hW=>(hws W hW).1) (by rw [List.getElem?_map,List.getElem?_range hkd]; rfl)
      obtain ⟨_,_,h1⟩:=World.cells?_some (hy (k/sz) hkd).1
      have h2:=h1 (k%sz) hkm
      rw [hp,Addr.add_mid,Addr.add_mid,Nat.add_assoc,hke] at h2
      rw [h2,← hat,List.getElem?_take,if_pos hkm,List.getElem?_drop,hke]
def Small (P:Program) (t:TypeId) (d:DataW H):Prop:=∀ k∈DataW.weights P t d,k≤reachBytes
theorem rJ {ts:List TypeId} {ds:List (DataW H)} {j:Nat} (hz:(DataW.weightsEach P ts ds).all (· ≤ reachBytes)=true) (ht:ts[j]? = some t) (hd:ds[j]? = some d):Small P t d:=fun k hk=>by
  simpa using List.all_eq_true.1 hz _ (DataW.weights_mem_each ht hd _ hk)
theorem lm {sz bytes:Nat} (ht:P.underlying t=some (.slice e)) (hsz:P.cellsOf e=sz) (hpos:0<sz) (hb:P.bytesOf e=bytes) (hz:Small P t x.1) (h:DataW.trod enc P w 0 (fun _=>true) held fuel t cs=some x) :
    ∃ (A:Option Addr) (Ws:List (List Value)) (c:Nat),cs=[.slice A Ws.length c]∧Ws.length≤c∧Ws.length≤9223372036854775807∧(∀ W∈Ws,W.length=sz∧∃ m y,DataW.trod enc P w 0 (fun _=>true) held m e W=some y∧Small P e y.1)∧Ws.length*bytes≤reachBytes∧Cl w A Ws.flatten:=by
  obtain ⟨A,Ws,c,h1,h2,h3,h4,h5,h6⟩:=qR ht hsz hpos h
  refine ⟨A,Ws,c,h1,h2,h3,fun W hW=>?_,?_,h6⟩
  · obtain ⟨hl,m,y,hy,es,sp,hd,hye⟩:=h4 W hW
    refine ⟨hl,m,y,hy,fun k hk=>hz k ?_⟩
    rw [hd]
    exact rD ht hye hk
  · rcases h5 with h5 | ⟨es,sp,hd,hl⟩
    · rw [h5,Nat.zero_mul]; exact Hy _
    · have hm:(es.length+sp.length)*P.bytesOf e∈DataW.weights P t x.1:=by
        rw [hd,DataW.weights,ht]
        exact HY ..
      have h1:=hz _ hm
      rw [hb,Nat.add_mul,hl] at h1
      omega
end
end Go.Dk
namespace Go.Proofs.YtepbmdlgdaedpaaGreatDoor
open Go.ChangeShapes Go.WideShapes Go.ChangeAt Go.RowKit Go.Dk Go.Deep
theorem Gm:Tryz.prog.cellsOf 9=1:=af
theorem Gn:Tryz.prog.bytesOf 9=16:=af
theorem C9 {n:Nat} (h:n*16≤reachBytes):n<8796093022000:=by
  have e:reachBytes=140737488351232:=ae
  omega
end Go.Proofs.YtepbmdlgdaedpaaGreatDoor
