/- Texts that belong together, one behind the other. -/
import Derived.Test.YtepbmdlgdaedpaaGreatDoorOpenR
import Derived.Test.YtepbmdlgdaedpaaGreatDoorStep
import Derived.Test.YtepbmdlgdaedpaaGreatDoorSha
namespace Go.Dk
open Go Go.ChangeShapes Go.WideShapes Go.ChangeAt Go.RowKit Go.Deep
section
variable {H:Type} {enc:TypeId × Value→H} {P:Program} {w:World} {held:Bool} {t e:TypeId} {v:Value} {d:DataW H} {p:List MemPlace} {cs:List Value} {x:DataW H × List MemPlace} {fuel:Nat}
theorem xK {sz:Nat} (ht:P.underlying t=some (.slice e)) (hsz:P.cellsOf e=sz) (hpos:0<sz) (h:DataW.trod enc P w 0 (fun _=>true) held fuel t cs=some x) :
    ∃ (A:Option Addr) (Ws:List (List Value)) (c:Nat),cs=[.slice A Ws.length c]∧Ws.length≤c∧Ws.length≤9223372036854775807∧(∀ W∈Ws,W.length=sz∧∃ m y,DataW.trod enc P w 0 (fun _=>true) held m e W=some y∧∃ es sp,x.1= .slice es sp∧y.1∈es)∧(Ws.length=0∨∃ es sp,x.1= .slice es sp∧es.length=Ws.length)∧Cl w A Ws.flatten:=by
  rcases DataW.trod_slice ht h with ⟨hcs,hx⟩ | ⟨a,len,cap,elems,rest,m,_,hcs,hx,_,hlc,hcm,hel,hget,_,_⟩
  · exact ⟨none,[],0,hcs,P5 _,ae,(fun _ h=>by cases h),.inl rfl,fun h=>absurd rfl h⟩
  · have hmx:maxLen=9223372036854775807:=rfl
    rw [hsz] at hget
    have each:∀ i,i<len→∃ (y:List Value × (DataW H × List MemPlace)),w.cells? 0 (a.add (i*sz)) sz=some y.1∧DataW.trod enc P w 0 (fun _=>true) held m e y.1=some y.2∧elems[i]? = some y.2:=by
      intro i hi
      have h1:=hget i hi
      have h2:elems[i]? = some (elems[i]'ag):=List.getElem?_eq_getElem ag
      rw [h2] at h1
      obtain ⟨cs,h3,h4⟩:=Option.bind_eq_some_iff.1 h1
      exact ⟨(cs,elems[i]'ag),h3,h4,h2⟩
    obtain ⟨y,hy⟩:=choose_lt each
    have hws:∀ W∈(List.range len).map (fun i=>(y i).1),W.length=sz∧∃ m y,DataW.trod enc P w 0 (fun _=>true) held m e W=some y∧∃ es sp,x.1= .slice es sp∧y.1∈es:=by
      intro W hW
      obtain ⟨i,hi,rfl⟩:=List.mem_map.1 hW
      have hi:=List.mem_range.1 hi
      obtain ⟨_,hl1,_⟩:=World.cells?_some (hy i hi).1
      exact ⟨hl1,m,_,(hy i hi).2.1,_,_,(Prod.mk.inj hx).1,List.mem_map.2 ⟨_,List.mem_of_getElem? (hy i hi).2.2,rfl⟩⟩
    refine ⟨some a,(List.range len).map (fun i=>(y i).1),cap,by simp [hcs],by simp; omega,by simp; omega,hws,.inr ⟨_,_,(Prod.mk.inj hx).1,by simp; omega⟩,fun hne=>?_⟩
    have hn:0<len:=by
      rcases Nat.eq_zero_or_pos len with h0 | h0
      · subst h0; simp at hne
      · exact h0
    obtain ⟨_,hl0,h0⟩:=World.cells?_some (hy 0 hn).1
    have h00:=h0 0 hpos
    rw [List.getElem?_eq_getElem ag] at h00
    have e0:a.add (0*sz)=a:=by rw [Nat.zero_mul]; simp [Addr.add]
    rw [e0] at h00
    have hp:=Cc h00 rfl
    refine ⟨a.block,a.off,by rw [← hp],?_,fun k hk=>?_⟩
    · have:=block_lt_of_cell h00
      simpa [Addr.add] using this
    · rw [zi (fun W hW=>(hws W hW).1)] at hk
      simp only [List.length_map,List.length_range] at hk
      have hkd:k/sz<len:=(Nat.div_lt_iff_lt_mul hpos).2 hk
      have hkm:=Nat.mod_lt k hpos
      have hke:=Nat.div_add_mod k sz
      rw [Nat.mul_comm] at hke
      obtain ⟨hat,hle⟩:=flat_at (z:=sz) (Ws:=(List.range len).map (fun i=>(y i).1)) (V:=(y (k/sz)).1) (i:=k/sz) (fun W hW=>(hws W hW).1) (by rw [List.getElem?_map,List.getElem?_range hkd]; rfl)
      obtain ⟨_,_,h1⟩:=World.cells?_some (hy (k/sz) hkd).1
      have h2:=h1 (k%sz) hkm
      rw [hp,Addr.add_mid,Addr.add_mid,Nat.add_assoc,hke] at h2
      rw [h2,← hat,List.getElem?_take,if_pos hkm,List.getElem?_drop,hke]
def Small (P:Program) (t:TypeId) (d:DataW H):Prop:=∀ k∈DataW.weights P t d,k≤reachBytes
theorem yc {ts:List TypeId} {ds:List (DataW H)} {j:Nat} (hz:(DataW.weightsEach P ts ds).all (· ≤ reachBytes)=true) (ht:ts[j]? = some t) (hd:ds[j]? = some d):Small P t d:=fun k hk=>by
  simpa using List.all_eq_true.1 hz _ (DataW.weights_mem_each ht hd _ hk)
theorem pq {sz bytes:Nat} (ht:P.underlying t=some (.slice e)) (hsz:P.cellsOf e=sz) (hpos:0<sz) (hb:P.bytesOf e=bytes) (hz:Small P t x.1) (h:DataW.trod enc P w 0 (fun _=>true) held fuel t cs=some x) :
    ∃ (A:Option Addr) (Ws:List (List Value)) (c:Nat),cs=[.slice A Ws.length c]∧Ws.length≤c∧Ws.length≤9223372036854775807∧(∀ W∈Ws,W.length=sz∧∃ m y,DataW.trod enc P w 0 (fun _=>true) held m e W=some y∧Small P e y.1)∧Ws.length*bytes≤reachBytes∧Cl w A Ws.flatten:=by
  obtain ⟨A,Ws,c,h1,h2,h3,h4,h5,h6⟩:=xK ht hsz hpos h
  refine ⟨A,Ws,c,h1,h2,h3,fun W hW=>?_,?_,h6⟩
  · obtain ⟨hl,m,y,hy,es,sp,hd,hye⟩:=h4 W hW
    refine ⟨hl,m,y,hy,fun k hk=>hz k ?_⟩
    rw [hd]
    exact xX ht hye hk
  · rcases h5 with h5 | ⟨es,sp,hd,hl⟩
    · rw [h5,Nat.zero_mul]; exact PU _
    · have hm:(es.length+sp.length)*P.bytesOf e∈DataW.weights P t x.1:=by
        rw [hd,DataW.weights,ht]
        exact P6 ..
      have h1:=hz _ hm
      rw [hb,Nat.add_mul,hl] at h1
      omega
end
end Go.Dk
namespace Go.Proofs.YtepbmdlgdaedpaaGreatDoor
open Go.ChangeShapes Go.WideShapes Go.ChangeAt Go.RowKit Go.Dk Go.Deep
theorem OV:Tryz.prog.cellsOf 9=1:=af
theorem OW:Tryz.prog.bytesOf 9=16:=af
theorem J7 {n:Nat} (h:n*16≤reachBytes):n<8796093022000:=by
  have e:reachBytes=140737488351232:=ae
  omega
theorem zU {H:Type} {enc:TypeId × Value→H} {w:World} {held:Bool} {cs:List Value} {x:DataW H × List MemPlace} {fuel:Nat} (hz:Small Tryz.prog 23 x.1) (h:DataW.trod enc Tryz.prog w 0 (fun _=>true) held fuel 23 cs=some x):∃ (A:Option Addr) (l:List (List UInt8)) (c:Nat),cs=[.slice A l.length c]∧l.length<8796093022000∧Rc w [] A (l.map ak):=by
  obtain ⟨A,Ws,c,h1,h2,h3,h4,h7,h5⟩:=pq PY OV ae OW hz h
  obtain ⟨l,hl,_⟩:=uj (f:=fun s=>[ak s]) (Pr:=fun _=>True) Ws (fun W hW=>by
    obtain ⟨hl,m,y,hy,_⟩:=h4 W hW
    obtain ⟨s,hs⟩:=Fz P9 hy
    exact ⟨s,hs,trivial⟩)
  subst hl
  rw [List.length_map] at h1 h3 h7
  rw [flat_one] at h5
  exact ⟨A,l,c,h1,J7 h7,h5.rc⟩
set_option maxRecDepth 100000 in
theorem Bg {H:Type} {enc:TypeId × Value→H} {w:World} {held:Bool} {v:Value} {d:DataW H} {p:List MemPlace} {r:Reach} {b0:Nat} (hv:Value.okWide Tryz.prog w r b0 23 v) (h:DataW.Trod enc Tryz.prog w 0 (fun _=>true) held 23 v d p) (hz:Small Tryz.prog 23 d):∃ (A:Option Addr) (l:List (List UInt8)) (c:Nat),v= .slice A l.length c∧l.length<8796093022000∧Rc w [] A (l.map ak):=by
  obtain ⟨fuel,hf⟩:=h
  obtain ⟨A,l,c,h1,h2,h3⟩:=zU (x:=(d,p)) hz hf
  exact ⟨A,l,c,mM PY hv h1,h2,h3⟩
end Go.Proofs.YtepbmdlgdaedpaaGreatDoor
namespace Go.Proofs.YtepbmdlgdaedpaaGreatDoor
open Go.ChangeShapes Go.WideShapes Go.ChangeAt Go.RowKit Go.Dk Go.Deep
theorem NL:Tryz.prog.bytesOf 29=32:=af
theorem zW {H:Type} {enc:TypeId × Value→H} {w:World} {held:Bool} {cs:List Value} {x:DataW H × List MemPlace} {fuel:Nat} (hz:Small Tryz.prog 59 x.1) (h:DataW.trod enc Tryz.prog w 0 (fun _=>true) held fuel 59 cs=some x):∃ (A:Option Addr) (ds:List (List UInt8)) (c:Nat),cs=[.slice A ds.length c]∧ds.length*32≤140737488351232∧Rc w [] A (mZ ds)∧∀ d∈ds,d.length=32:=by
  obtain ⟨A,Ws,c,h1,h2,h3,h4,h7,h5⟩:=pq PS NQ ae NL hz h
  obtain ⟨ds,hds,hok⟩:=uj (f:=dc) (Pr:=fun d=>d.length=32) Ws (fun W hW=>by
    obtain ⟨hl,m,y,hy,_⟩:=h4 W hW
    obtain ⟨D,e1,e2⟩:=qN PV PW OY hl hy
    exact ⟨D,e1,e2⟩)
  subst hds
  rw [List.length_map] at h1 h3 h7
  exact ⟨A,ds,c,h1,h7,h5.rc,hok⟩
set_option maxRecDepth 100000 in
theorem Bj {H:Type} {enc:TypeId × Value→H} {w:World} {held:Bool} {v:Value} {d:DataW H} {p:List MemPlace} {r:Reach} {b0:Nat} (hv:Value.okWide Tryz.prog w r b0 59 v) (h:DataW.Trod enc Tryz.prog w 0 (fun _=>true) held 59 v d p) (hz:Small Tryz.prog 59 d):∃ (A:Option Addr) (ds:List (List UInt8)) (c:Nat),v= .slice A ds.length c∧ds.length*32≤140737488351232∧Rc w [] A (mZ ds)∧∀ d∈ds,d.length=32:=by
  obtain ⟨fuel,hf⟩:=h
  obtain ⟨A,ds,c,h1,h2⟩:=zW (x:=(d,p)) hz hf
  exact ⟨A,ds,c,mM PS hv h1,h2⟩
end Go.Proofs.YtepbmdlgdaedpaaGreatDoor
namespace Go.Dk
open Go
theorem pJ (a b:Nat):add32 a b<4294967296:=Nat.mod_lt _ ae
theorem mr (st:List Nat) (bs:List UInt8):(compress st bs).length=8:=by simp [compress]
theorem zL (st:List Nat) (bs:List UInt8):∀ x∈compress st bs,x<4294967296:=by
  intro x hx
  simp only [compress,List.mem_map] at hx
  obtain ⟨i,_,rfl⟩:=hx
  exact pJ _ _
theorem aX (n:Nat) (st:List Nat) (bs:List UInt8) (h:st.length=8):(blocks n st bs).length=8:=by
  induction n generalizing st bs with
  | zero=>exact h
  | succ n ih=>exact ih _ _ (mr _ _)
theorem nK (n:Nat) (st:List Nat) (bs:List UInt8) (h:∀ x∈st,x<4294967296):∀ x∈blocks n st bs,x<4294967296:=by
  induction n generalizing st bs with
  | zero=>exact h
  | succ n ih=>exact ih _ _ (zL _ _)
theorem ou (n:Nat) (st:List Nat) (bs:List UInt8):blocks (n+1) st bs=compress (blocks n st bs) ((bs.drop (64*n)).take 64):=by
  induction n generalizing st bs with
  | zero=>simp [blocks]
  | succ n ih =>
    have h1:blocks (n+1+1) st bs=blocks (n+1) (compress st (bs.take 64)) (bs.drop 64):=rfl
    have h2:blocks (n+1) st bs=blocks n (compress st (bs.take 64)) (bs.drop 64):=rfl
    rw [h1,ih,h2,List.drop_drop,show 64+64*n=64*(n+1) by omega]
theorem fK (n:Nat) (st:List Nat) (a b:List UInt8) (h:64*n≤a.length):blocks n st (a++b)=blocks n st a:=by
  induction n generalizing st a with
  | zero=>rfl
  | succ n ih =>
    show blocks n (compress st ((a++b).take 64)) ((a++b).drop 64)=blocks n (compress st (a.take 64)) (a.drop 64)
    rw [List.take_append_of_le_length ag,List.drop_append_of_le_length ag]
    exact ih _ _ (by simp; omega)
theorem oQ:init8.length=8:=rfl
theorem oP:∀ x∈init8,x<4294967296:=ae
def wc (l:List Nat):List Value:=l.map fun x:Nat=>Value.int .u32 (x:Int)
theorem bf (l:List Nat):(wc l).length=l.length:=by simp [wc]
theorem mG {l:List Nat} {i:Nat} (h:i<l.length):(wc l)[i]? = some (.int .u32 (wAt l i:Nat)):=by simp [wc,wAt,h]
def hcells (st:List Nat) (rest:List UInt8) (n:Nat):List Value:=wc st++(dc rest++[.int .u64 (n:Int)])
section
variable {st st':List Nat} {rest rest':List UInt8} {n n':Nat}
theorem dM (h:st.length=8) (h':rest.length=64):(hcells st rest n).length=73:=by simp [hcells,bf,aI,h,h']
theorem iM (h:st.length=8) (h':rest.length=64):(hcells st rest n)[72]? = some (.int .u64 (n:Int)):=by
  unfold hcells
  rw [List.getElem?_append_right (by rw [bf,h]; decide),bf,h,List.getElem?_append_right (by rw [aI,h']; decide),aI,h']
  rfl
theorem jy (h:st.length=8) (h':rest.length=64):(hcells st rest n).set 72 (.int .u64 (n':Int))=hcells st rest n':=by
  unfold hcells
  rw [List.set_append,if_neg (by rw [bf,h]; decide),bf,h,List.set_append,if_neg (by rw [aI,h']; decide),aI,h']
  rfl
theorem vP (h:st.length=8):((hcells st rest n).drop 0).take 8=wc st:=by
  unfold hcells
  rw [List.drop_zero,List.take_append_of_le_length (by rw [bf,h]; decide),P8 (by rw [bf,h]; decide)]
theorem uJ (h:st.length=8) (h2:st'.length=8):splice (hcells st rest n) 0 (wc st')=hcells st' rest n:=by
  unfold splice hcells
  rw [bf,h2,List.take_zero,List.nil_append,Nat.zero_add,List.drop_append_of_le_length (by rw [bf,h]; decide),List.drop_of_length_le (by rw [bf,h]; decide),List.nil_append]
theorem xx (h:st.length=8) {i:Nat} (hi:i<8):(hcells st rest n)[0+i]? = some (.int .u32 (wAt st i:Nat)):=by
  unfold hcells
  rw [Nat.zero_add,List.getElem?_append_left (by rw [bf,h]; exact hi),mG (by rw [h]; exact hi)]
theorem yV (h:st.length=8) (h':rest.length=64):((hcells st rest n).drop 8).take rest.length=dc rest:=by
  unfold hcells
  rw [List.drop_append_of_le_length (by rw [bf,h]; decide),List.drop_of_length_le (by rw [bf,h]; decide),List.nil_append,List.take_append_of_le_length (by rw [aI,h']; decide),P8 (by rw [aI]; exact P5 _)]
def put (rest:List UInt8) (o:Nat) (l:List UInt8):List UInt8:=rest.take o++l++rest.drop (o+l.length)
theorem kH {o:Nat} {l:List UInt8} (h:o+l.length≤rest.length):(put rest o l).length=rest.length:=by simp [put]; omega
theorem nZ {o:Nat} {l:List UInt8} (h:st.length=8) (h':rest.length=64) (hl:o+l.length≤64):splice (hcells st rest n) (8+o) (dc l)=hcells st (put rest o l) n:=by
  unfold splice hcells put
  rw [bV,bV,aI]
  rw [List.take_append,bf,h,show 8+o-8=o by omega,P8 (by rw [bf,h]; omega),List.take_append_of_le_length (by rw [aI,h']; omega),dc_take]
  rw [List.drop_append,bf,h,List.drop_of_length_le (by rw [bf,h]; omega),List.nil_append,show 8+o+l.length-8=o+l.length by omega,List.drop_append_of_le_length (by rw [aI,h']; omega),Dt]
  simp only [List.append_assoc]
end
def HS (m:List UInt8) (cs:List Value):Prop :=
  ∃ rest:List UInt8,rest.length=64∧rest.take (m.length%64)=m.drop (m.length/64*64)∧cs=hcells (blocks (m.length/64) init8 m) rest m.length
theorem HS.new:HS [] (hcells init8 (List.replicate 64 0) 0):=⟨List.replicate 64 0,by simp,by simp,rfl⟩
theorem HS.tail (m l:List UInt8) (rest:List UInt8) (hr:rest.length=64) (hm:m.length%64=0) (hl:l.length<64) :
    HS (m++l) (hcells (blocks (m.length/64) init8 m) (put rest 0 l) (m.length+l.length)):=by
  have e1:(m++l).length/64=m.length/64:=by rw [List.length_append]; omega
  have e2:(m++l).length%64=l.length:=by rw [List.length_append]; omega
  have e3:m.length/64*64=m.length:=by omega
  refine ⟨put rest 0 l,by rw [kH ag,hr],?_,?_⟩
  · rw [e2,e1,e3]
    simp [put]
  · rw [e1,fK _ _ _ _ ag,List.length_append]
theorem HS.part (m l:List UInt8) (rest:List UInt8) (hr:rest.length=64) (ht:rest.take (m.length%64)=m.drop (m.length/64*64)) (hl:m.length%64+l.length<64) :
    HS (m++l) (hcells (blocks (m.length/64) init8 m) (put rest (m.length%64) l) (m.length+l.length)):=by
  have e1:(m++l).length/64=m.length/64:=by rw [List.length_append]; omega
  have e2:(m++l).length%64=m.length%64+l.length:=by rw [List.length_append]; omega
  refine ⟨put rest (m.length%64) l,by rw [kH ag,hr],?_,?_⟩
  · rw [e2,e1,List.drop_append_of_le_length ag,← ht]
    unfold put
    rw [List.take_append_of_le_length (by simp; omega),P8 (by simp; omega)]
  · rw [e1,fK _ _ _ _ ag,List.length_append]
theorem fills (m l:List UInt8) (rest:List UInt8) (hr:rest.length=64) (ht:rest.take (m.length%64)=m.drop (m.length/64*64)) (hl:m.length%64+l.length=64) :
    compress (blocks (m.length/64) init8 m) (put rest (m.length%64) l)=blocks ((m++l).length/64) init8 (m++l)∧(m++l).length%64=0:=by
  have e1:(m++l).length/64=m.length/64+1:=by rw [List.length_append]; omega
  refine ⟨?_,by rw [List.length_append]; omega⟩
  rw [e1,ou,fK _ _ _ _ ag]
  congr 1
  have h1:put rest (m.length%64) l=m.drop (m.length/64*64)++l:=by
    unfold put
    have h2:rest.drop 64=[]:=List.drop_of_length_le ag
    rw [ht,hl,h2,List.append_nil]
  rw [h1,List.drop_append_of_le_length ag,P8 (by simp; omega),Nat.mul_comm]
theorem uu (m l:List UInt8) (j:Nat) (hm:m.length%64=0) :
    compress (blocks (m.length/64+j) init8 (m++l)) ((l.drop (64*j)).take 64)=blocks (m.length/64+(j+1)) init8 (m++l):=by
  rw [← Nat.add_assoc,ou]
  congr 2
  have h2:m.drop (64*(m.length/64+j))=[]:=List.drop_of_length_le ag
  rw [List.drop_append,h2,List.nil_append]
  congr 1
  omega
end Go.Dk
