/- Texts that belong together, one behind the other. -/
import Derived.Test.YtpomngkcfbnjoaaGreatDoorOpenS
import Derived.Test.YtpomngkcfbnjoaaGreatDoorHs
import Derived.Test.YtpomngkcfbnjoaaGreatDoorSpL
import Derived.Test.YtpomngkcfbnjoaaGreatDoorLawMemory
namespace Go.Dk
open Go Go.ChangeShapes Go.WideShapes Go.ChangeAt Go.RowKit Go.Deep
def Cl (w:World) (A:Option Addr) (W:List Value):Prop:=W≠[]→∃ b o,A=some ⟨b,o,none⟩∧b<w.heap.size∧∀ i,i<W.length→w.cell? ⟨b,o+i,none⟩=W[i]?
theorem Cl.rc {w0:World} {R:List Seg} {A:Option Addr} {W:List Value} (h:Cl w0 A W):Rc w0 R A W:=fun hne=>by
  obtain ⟨b,o,h1,h2,h3⟩:=h hne
  refine ⟨b,o,h1,fun x hx=>⟨by have:=hx.size; omega,fun i hi=>?_⟩⟩
  rw [← h3 i hi]
  simp only [World.cell?,hx.old h2]
theorem qR {α β:Type} {f:α→β} {Pr:α→Prop} (Ws:List β) (h:∀ W∈Ws,∃ x,W=f x∧Pr x):∃ xs:List α,Ws=xs.map f∧∀ x∈xs,Pr x:=by
  induction Ws with
  | nil=>exact ⟨[],rfl,fun _ h=>by cases h⟩
  | cons W Ws ih =>
    obtain ⟨x,hx,hp⟩:=h W (TF ..)
    obtain ⟨xs,hxs,hps⟩:=ih (fun V hV=>h V (TI _ hV))
    refine ⟨x::xs,by rw [List.map_cons,hx,hxs],fun y hy=>?_⟩
    rcases List.mem_cons.1 hy with rfl | hy
    · exact hp
    · exact hps y hy
section
variable {H:Type} {enc:TypeId × Value→H} {P:Program} {w:World} {held:Bool} {t e:TypeId} {v:Value} {d:DataW H} {p:List MemPlace} {cs:List Value} {x:DataW H × List MemPlace} {fuel:Nat}
theorem pg {sz:Nat} (ht:P.underlying t=some (.slice e)) (hsz:P.cellsOf e=sz) (hpos:0<sz) (h:DataW.trod enc P w 0 (fun _=>true) held fuel t cs=some x) :
    ∃ (A:Option Addr) (Ws:List (List Value)) (c:Nat),cs=[.slice A Ws.length c]∧Ws.length≤c∧Ws.length≤9223372036854775807∧(∀ W∈Ws,W.length=sz∧∃ m y,DataW.trod enc P w 0 (fun _=>true) held m e W=some y)∧Cl w A Ws.flatten:=by
  rcases DataW.trod_slice ht h with ⟨hcs,hx⟩ | ⟨a,len,cap,elems,rest,m,_,hcs,hx,_,hlc,hcm,hel,hget,_,_⟩
  · exact ⟨none,[],0,hcs,TG _,ae,(fun _ h=>by cases h),fun h=>absurd rfl h⟩
  · have hmx:maxLen=9223372036854775807:=rfl
    rw [hsz] at hget
    have each:∀ i,i<len→∃ (y:List Value × (DataW H × List MemPlace)),w.cells? 0 (a.add (i*sz)) sz=some y.1∧DataW.trod enc P w 0 (fun _=>true) held m e y.1=some y.2:=by
      intro i hi
      have h1:=hget i hi
      have h2:elems[i]? = some (elems[i]'ag):=List.getElem?_eq_getElem ag
      rw [h2] at h1
      obtain ⟨cs,h3,h4⟩:=Option.bind_eq_some_iff.1 h1
      exact ⟨(cs,elems[i]'ag),h3,h4⟩
    obtain ⟨y,hy⟩:=choose_lt each
    have hws:∀ W∈(List.range len).map (fun i=>(y i).1),W.length=sz∧∃ m y,DataW.trod enc P w 0 (fun _=>true) held m e W=some y:=by
      intro W hW
      obtain ⟨i,hi,rfl⟩:=List.mem_map.1 hW
      have hi:=List.mem_range.1 hi
      obtain ⟨_,hl1,_⟩:=World.cells?_some (hy i hi).1
      exact ⟨hl1,m,_,(hy i hi).2⟩
    refine ⟨some a,(List.range len).map (fun i=>(y i).1),cap,by simp [hcs],by simp; omega,by simp; omega,hws,fun hne=>?_⟩
    have hn:0<len:=by
      rcases Nat.eq_zero_or_pos len with h0 | h0
      · subst h0; simp at hne
      · exact h0
    obtain ⟨_,hl0,h0⟩:=World.cells?_some (hy 0 hn).1
    have h00:=h0 0 hpos
    rw [List.getElem?_eq_getElem ag] at h00
    have e0:a.add (0*sz)=a:=by rw [Nat.zero_mul]; simp [Addr.add]
    rw [e0] at h00
    have hp:=FM h00 rfl
    refine ⟨a.block,a.off,by rw [← hp],?_,fun k hk=>?_⟩
    · have:=block_lt_of_cell h00
      simpa [Addr.add] using this
    · rw [Dt (fun W hW=>(hws W hW).1)] at hk
      simp only [List.length_map,List.length_range] at hk
      have hkd:k/sz<len:=(Nat.div_lt_iff_lt_mul hpos).2 hk
      have hkm:=Nat.mod_lt k hpos
      have hke:=Nat.div_add_mod k sz
      rw [Nat.mul_comm] at hke
      obtain ⟨hat,hle⟩:=flat_at (z:=sz) (Ws:=(List.range len).map (fun i=>(y i).1)) (V:=(y (k/sz)).1) (i:=k/sz) (fun W hW=>(hws W hW).1) (by rw [List.getElem?_map,List.getElem?_range hkd]; rfl)
      obtain ⟨_,_,h1⟩:=World.cells?_some (hy (k/sz) hkd).1
      have h2:=h1 (k%sz) hkm
      rw [hp,Addr.add_mid,Addr.add_mid,Nat.add_assoc,hke] at h2
      rw [h2,← hat,List.getElem?_take,if_pos hkm,List.getElem?_drop,hke]
theorem jC {n:Nat} (ht:P.underlying t=some (.array n e)) (he:P.underlying e=some (.int .u8)) (hc:P.cellsOf e=1) (hcs:cs.length=n) (h:DataW.trod enc P w 0 (fun _=>true) held fuel t cs=some x):∃ D:List UInt8,cs=dc D∧D.length=n:=by
  obtain ⟨xs,m,_,_,_,hl,hel⟩:=DataW.trod_array ht h
  refine ⟨cs.map byteOf,?_,by simpa using hcs⟩
  apply List.ext_getElem
  · simp [dc]
  · intro i h1 h2
    have hi:i<n:=by omega
    have h3:=hel i hi
    rw [hc,Nat.mul_one,List.getElem?_eq_getElem ag] at h3
    obtain ⟨z,hz,_,hw⟩:=DataW.trod_int he h3
    have hcell:cs[i]= .int .u8 z:=by
      have h4:(cs.drop i).take 1=[cs[i]'ag]:=by rw [List.drop_eq_getElem_cons ag]; rfl
      rw [h4] at hz
      exact (List.cons.inj hz).1
    simp [dc,hcell,Jg hw]
theorem AZ {q:TypeId} {n:Nat} (ht:P.underlying t=some (.slice e)) (he:P.underlying e=some (.array n q)) (hq:P.underlying q=some (.int .u8)) (hc:P.cellsOf e=n) (hcq:P.cellsOf q=1) (hn:0<n) (h:DataW.trod enc P w 0 (fun _=>true) held fuel t cs=some x) :
    ∃ (A:Option Addr) (ds:List (List UInt8)) (c:Nat),cs=[.slice A ds.length c]∧ds.length≤c∧ds.length≤9223372036854775807∧(∀ d∈ds,d.length=n)∧Cl w A (fF ds):=by
  obtain ⟨A,Ws,c,h1,h2,h3,h4,h5⟩:=pg ht hc hn h
  obtain ⟨ds,hl,hs⟩:=qR (f:=dc) (Pr:=fun d=>d.length=n) Ws (fun W hW=>by
    obtain ⟨hl,m,y,hy⟩:=h4 W hW
    exact jC he hq hcq hl hy)
  subst hl
  rw [List.length_map] at h1 h2 h3
  exact ⟨A,ds,c,h1,h2,h3,hs,h5⟩
theorem eY (l:List Value) (k m:Nat):l.drop k=(l.drop k).take m++l.drop (k+m):=by
  rw [← List.drop_drop]
  exact (List.take_append_drop m _).symm
theorem uq {k:IntKind} (ht:P.underlying t=some (.int k)) (h:DataW.trod enc P w 0 (fun _=>true) held fuel t cs=some x):∃ n,cs=[.int k n]∧k.min≤n∧n≤k.max:=by
  obtain ⟨n,h1,_,h2⟩:=DataW.trod_int ht h
  exact ⟨n,h1,by simpa [Lit.wf] using h2⟩
theorem wJ {r:Reach} {b0:Nat} {A:Option Addr} {n c:Nat} (ht:P.underlying t=some (.slice e)) (hv:Value.okWide P w r b0 t v) (h:v.cells.toList=[.slice A n c]):v= .slice A n c:=by
  cases v with
  | agg cs=>simp [Value.okWide,ht,Cell.okWide,Cell.ok] at hv
  | tuple cs=>simp [Value.okWide,ht,Cell.okWide,Cell.ok] at hv
  | slice _ _ _=>simpa [Value.cells] using h
  | _=>simp [Value.cells] at h
end
end Go.Dk
namespace Go.Proofs.YtpomngkcfbnjoaaGreatDoor
open Go.ChangeShapes Go.WideShapes Go.ChangeAt Go.RowKit Go.Dk Go.Deep
def Prf.short (q:Prf):Prf:={ q with ss:=q.ss.take 300 }
theorem KE {q:Prf} (h1:q.ch.length=32) (h2:q.bs.length=32) (h3:∀ d∈q.ss,d.length=32):q.short.OK :=
  ⟨h1,h2,fun d hd=>h3 d (List.mem_of_mem_take hd),by show (q.ss.take 300).length≤300; rw [List.length_take]; omega⟩
theorem H6 (q:Prf):q.short.ss.length=min q.ss.length 300:=by show (q.ss.take 300).length=_; rw [List.length_take,Nat.min_comm]
theorem KD {w:World} {A:Option Addr} {q:Prf} (h:Rc w [] A (fF q.ss)):Rc w [] A (fF q.short.ss):=by
  have e:fF q.ss=fF (q.ss.take 300)++fF (q.ss.drop 300):=by
    have h1:=je (C:=dc) (l:=q.ss.take 300) (m:=q.ss.drop 300)
    rwa [List.take_append_drop] at h1
  have h1:=h.take (fF (q.ss.take 300)).length
  rw [e,List.take_left' rfl] at h1
  exact h1
end Go.Proofs.YtpomngkcfbnjoaaGreatDoor
namespace Go.Proofs.YtpomngkcfbnjoaaGreatDoor
open Go.ChangeShapes Go.WideShapes Go.ChangeAt Go.RowKit Go.Dk Go.Deep
theorem LZ:Tryz.prog.cellsOf 3=1:=af
theorem SS:Tryz.prog.cellsOf 4=1:=af
theorem zh:Tryz.prog.cellsOf 5=1:=af
theorem RI:Tryz.prog.cellsOf 24=32:=af
theorem xx:Tryz.prog.cellsOf 25=32:=af
theorem E8:Tryz.prog.cellsOf 27=33:=af
theorem RH:Tryz.prog.cellsOf 28=1:=af
theorem RG:Tryz.prog.cellsOf 30=67:=af
theorem RF:Tryz.prog.cellsOf 31=1:=af
theorem RD:Tryz.prog.cellsOf 33=167:=af
theorem Rz:Tryz.prog.cellsOf 49=65:=af
theorem ut {H:Type} {enc:TypeId × Value→H} {w:World} {held:Bool} {cs:List Value} {x:DataW H × List MemPlace} {fuel:Nat} (hlen:cs.length=33) (h:DataW.trod enc Tryz.prog w 0 (fun _=>true) held fuel 27 cs=some x):∃ (z:Int) (ch:List UInt8),cs= .int .i64 z::dc ch∧ch.length=32:=by
  obtain ⟨xs,n,_,_,_,xsl,xse⟩:=DataW.trod_struct Uf h
  have xs2:xs.length=2:=xsl
  have g (i:Nat) (hi:i<2):xs[i]? = some xs[i]:=List.getElem?_eq_getElem ag
  have f0:DataW.trod enc Tryz.prog w 0 (fun _=>true) held n 3 (((cs).drop 0).take (Tryz.prog.cellsOf 3))=xs[0]? := xse 0 _ rfl
  rw [g 0 ag,LZ] at f0
  have f1:DataW.trod enc Tryz.prog w 0 (fun _=>true) held n 25 (((cs).drop 1).take (Tryz.prog.cellsOf 25))=xs[1]? := xse 1 _ rfl
  rw [g 1 ag,xx] at f1
  obtain ⟨z,e0,_,_⟩:=uq TP f0
  obtain ⟨ch,e1,hch⟩:=jC Tz TA zh (by simp only [List.length_take,List.length_drop]; omega) f1
  refine ⟨z,ch,?_,hch⟩
  have s0:=eY cs 0 1
  have s1:=eY cs 1 32
  rw [e0] at s0
  rw [e1] at s1
  have z1:cs.drop (1+32)=[]:=List.drop_of_length_le ag
  rw [z1] at s1
  rw [List.drop_zero] at s0
  rw [s0,s1]
  simp
theorem Jf {H:Type} {enc:TypeId × Value→H} {w:World} {held:Bool} {cs:List Value} {x:DataW H × List MemPlace} {fuel:Nat} (hlen:cs.length=65) (h:DataW.trod enc Tryz.prog w 0 (fun _=>true) held fuel 49 cs=some x):∃ i:Itm,cs=i.cells∧i.OK:=by
  obtain ⟨xs,n,_,_,_,xsl,xse⟩:=DataW.trod_struct TZ h
  have xs2:xs.length=2:=xsl
  have g (i:Nat) (hi:i<2):xs[i]? = some xs[i]:=List.getElem?_eq_getElem ag
  have f0:DataW.trod enc Tryz.prog w 0 (fun _=>true) held n 25 (((cs).drop 0).take (Tryz.prog.cellsOf 25))=xs[0]? := xse 0 _ rfl
  rw [g 0 ag,xx] at f0
  have f1:DataW.trod enc Tryz.prog w 0 (fun _=>true) held n 27 (((cs).drop 32).take (Tryz.prog.cellsOf 27))=xs[1]? := xse 1 _ rfl
  rw [g 1 ag,E8] at f1
  obtain ⟨k,e0,hk⟩:=jC Tz TA zh (by simp only [List.length_take,List.length_drop]; omega) f0
  obtain ⟨z,ch,e1,hch⟩:=ut (by simp only [List.length_take,List.length_drop]; omega) f1
  refine ⟨⟨k,z,ch⟩,?_,⟨hk,hch⟩⟩
  have s0:=eY cs 0 32
  have s1:=eY cs 32 33
  rw [e0] at s0
  rw [e1] at s1
  have z1:cs.drop (32+33)=[]:=List.drop_of_length_le ag
  rw [z1] at s1
  rw [List.drop_zero] at s0
  rw [s0,s1]
  simp [Itm.cells,Itm.ent]
theorem DW {H:Type} {enc:TypeId × Value→H} {w:World} {held:Bool} {cs:List Value} {x:DataW H × List MemPlace} {fuel:Nat} (h:DataW.trod enc Tryz.prog w 0 (fun _=>true) held fuel 31 cs=some x):∃ (A:Option Addr) (l:List Itm) (c:Nat),cs=[.slice A l.length c]∧l.length≤c∧(∀ i∈l,i.OK)∧Rc w [] A (cel Itm.cells l):=by
  obtain ⟨A,Ws,c,h1,h2,_,h4,h5⟩:=pg TT Rz ae h
  obtain ⟨l,hl,hs⟩:=qR (f:=Itm.cells) (Pr:=fun i=>i.OK) Ws (fun W hW=>by
    obtain ⟨hl,m,y,hy⟩:=h4 W hW
    exact Jf hl hy)
  subst hl
  rw [List.length_map] at h1 h2
  exact ⟨A,l,c,h1,h2,hs,h5.rc⟩
set_option maxRecDepth 100000 in
theorem Je {H:Type} {enc:TypeId × Value→H} {w:World} {held:Bool} {cs:List Value} {x:DataW H × List MemPlace} {fuel:Nat} (hlen:cs.length=67) (h:DataW.trod enc Tryz.prog w 0 (fun _=>true) held fuel 30 cs=some x):∃ (q:Prf) (sA:Option Addr) (sC:Nat),cs=q.cells (.slice sA q.ss.length sC)∧q.ch.length=32∧q.bs.length=32∧(∀ d∈q.ss,d.length=32)∧q.ss.length≤sC∧Rc w [] sA (fF q.ss):=by
  obtain ⟨xs,n,_,_,_,xsl,xse⟩:=DataW.trod_struct TW h
  have xs2:xs.length=4:=xsl
  have g (i:Nat) (hi:i<4):xs[i]? = some xs[i]:=List.getElem?_eq_getElem ag
  have f0:DataW.trod enc Tryz.prog w 0 (fun _=>true) held n 4 (((cs).drop 0).take (Tryz.prog.cellsOf 4))=xs[0]? := xse 0 _ rfl
  rw [g 0 ag,SS] at f0
  have f1:DataW.trod enc Tryz.prog w 0 (fun _=>true) held n 27 (((cs).drop 1).take (Tryz.prog.cellsOf 27))=xs[1]? := xse 1 _ rfl
  rw [g 1 ag,E8] at f1
  have f2:DataW.trod enc Tryz.prog w 0 (fun _=>true) held n 24 (((cs).drop 34).take (Tryz.prog.cellsOf 24))=xs[2]? := xse 2 _ rfl
  rw [g 2 ag,RI] at f2
  have f3:DataW.trod enc Tryz.prog w 0 (fun _=>true) held n 28 (((cs).drop 66).take (Tryz.prog.cellsOf 28))=xs[3]? := xse 3 _ rfl
  rw [g 3 ag,RH] at f3
  obtain ⟨b0,e0,_⟩:=DataW.trod_bool Ua f0
  obtain ⟨z,ch,e1,hch⟩:=ut (by simp only [List.length_take,List.length_drop]; omega) f1
  obtain ⟨bs,e2,hbs⟩:=jC Ub TA zh (by simp only [List.length_take,List.length_drop]; omega) f2
  obtain ⟨sA,ss,sC,e3,l3,_,h3,r3⟩:=AZ Tu Tz TA xx zh ae f3
  refine ⟨⟨b0,z,ch,bs,ss⟩,sA,sC,?_,hch,hbs,h3,l3,r3.rc⟩
  have s0:=eY cs 0 1
  have s1:=eY cs 1 33
  have s2:=eY cs 34 32
  have s3:=eY cs 66 1
  rw [e0] at s0
  rw [e1] at s1
  rw [e2] at s2
  rw [e3] at s3
  have z2:cs.drop (66+1)=[]:=List.drop_of_length_le ag
  rw [z2] at s3
  rw [List.drop_zero] at s0
  rw [s0,s1,s2,s3]
  simp [Prf.cells]
theorem Ei {w:World} {A:Option Addr} {l:List Itm} (n:Nat) (h:Rc w [] A (cel Itm.cells l)):Rc w [] A (cel Itm.cells (l.take n)):=by
  have e:cel Itm.cells l=cel Itm.cells (l.take n)++cel Itm.cells (l.drop n):=by
    have h1:=je (C:=Itm.cells) (l:=l.take n) (m:=l.drop n)
    rwa [List.take_append_drop] at h1
  have h1:=h.take (cel Itm.cells (l.take n)).length
  rw [e,List.take_left' rfl] at h1
  exact h1
theorem Ej {w:World} {A:Option Addr} {l:List CA} (n:Nat) (h:Rc w [] A (l.map CA.cells).flatten):Rc w [] A ((l.take n).map CA.cells).flatten:=by
  have e:(l.map CA.cells).flatten=((l.take n).map CA.cells).flatten++((l.drop n).map CA.cells).flatten:=by
    rw [← List.flatten_append,← List.map_append,List.take_append_drop]
  have h1:=h.take ((l.take n).map CA.cells).flatten.length
  rw [e,List.take_left' rfl] at h1
  exact h1
set_option maxRecDepth 100000 in
theorem FB {H:Type} {enc:TypeId × Value→H} {w:World} {held:Bool} {cs:List Value} {x:DataW H × List MemPlace} {fuel:Nat} (hlen:cs.length=167) (h:DataW.trod enc Tryz.prog w 0 (fun _=>true) held fuel 33 cs=some x):∃ a:CA,cs=a.cells∧a.Good w:=by
  obtain ⟨xs,n,_,_,_,xsl,xse⟩:=DataW.trod_struct TU h
  have xs2:xs.length=7:=xsl
  have g (i:Nat) (hi:i<7):xs[i]? = some xs[i]:=List.getElem?_eq_getElem ag
  have f0:DataW.trod enc Tryz.prog w 0 (fun _=>true) held n 3 (((cs).drop 0).take (Tryz.prog.cellsOf 3))=xs[0]? := xse 0 _ rfl
  rw [g 0 ag,LZ] at f0
  have f1:DataW.trod enc Tryz.prog w 0 (fun _=>true) held n 3 (((cs).drop 1).take (Tryz.prog.cellsOf 3))=xs[1]? := xse 1 _ rfl
  rw [g 1 ag,LZ] at f1
  have f2:DataW.trod enc Tryz.prog w 0 (fun _=>true) held n 25 (((cs).drop 2).take (Tryz.prog.cellsOf 25))=xs[2]? := xse 2 _ rfl
  rw [g 2 ag,xx] at f2
  have f3:DataW.trod enc Tryz.prog w 0 (fun _=>true) held n 25 (((cs).drop 34).take (Tryz.prog.cellsOf 25))=xs[3]? := xse 3 _ rfl
  rw [g 3 ag,xx] at f3
  have f4:DataW.trod enc Tryz.prog w 0 (fun _=>true) held n 27 (((cs).drop 66).take (Tryz.prog.cellsOf 27))=xs[4]? := xse 4 _ rfl
  rw [g 4 ag,E8] at f4
  have f5:DataW.trod enc Tryz.prog w 0 (fun _=>true) held n 30 (((cs).drop 99).take (Tryz.prog.cellsOf 30))=xs[5]? := xse 5 _ rfl
  rw [g 5 ag,RG] at f5
  have f6:DataW.trod enc Tryz.prog w 0 (fun _=>true) held n 31 (((cs).drop 166).take (Tryz.prog.cellsOf 31))=xs[6]? := xse 6 _ rfl
  rw [g 6 ag,RF] at f6
  obtain ⟨kd,e0,_,_⟩:=uq TP f0
  obtain ⟨wd,e1,_,_⟩:=uq TP f1
  obtain ⟨k,e2,hk⟩:=jC Tz TA zh (by simp only [List.length_take,List.length_drop]; omega) f2
  obtain ⟨root,e3,hroot⟩:=jC Tz TA zh (by simp only [List.length_take,List.length_drop]; omega) f3
  obtain ⟨z,ch,e4,hch⟩:=ut (by simp only [List.length_take,List.length_drop]; omega) f4
  obtain ⟨q,sA,sC,e5,hqc,hqb,hqs,hqn,hqr⟩:=Je (by simp only [List.length_take,List.length_drop]; omega) f5
  obtain ⟨lA,l,lC,e6,hlC,hlO,hlr⟩:=DW f6
  refine ⟨⟨⟨kd,wd,⟨k,z,ch⟩,root,q.short,l.take 24⟩,sA,q.ss.length,sC,lA,l.length,lC⟩,?_,⟨⟨⟨hk,hch⟩,hroot,KE hqc hqb hqs,fun i hi=>hlO i (List.mem_of_mem_take hi)⟩,hqn,H6 q,hlC,?_,KD hqr,Ei 24 hlr⟩⟩
  have s0:=eY (cs) 0 1
  have s1:=eY (cs) 1 1
  have s2:=eY (cs) 2 32
  have s3:=eY (cs) 34 32
  have s4:=eY (cs) 66 33
  have s5:=eY (cs) 99 67
  have s6:=eY (cs) 166 1
  rw [e0] at s0
  rw [e1] at s1
  rw [e2] at s2
  rw [e3] at s3
  rw [e4] at s4
  rw [e5] at s5
  rw [e6] at s6
  have z2:cs.drop (166+1)=[]:=List.drop_of_length_le ag
  rw [z2] at s6
  rw [List.drop_zero] at s0
  · rw [s0,s1,s2,s3,s4,s5,s6]
    simp [CX.cells,Itm.ent,Prf.cells,Prf.short]
  · show (l.take 24).length=_
    rw [List.length_take,Nat.min_comm]
set_option maxRecDepth 100000 in
theorem open_script {H:Type} {enc:TypeId × Value→H} {w:World} {held:Bool} {v:Value} {d:DataW H} {p:List MemPlace} {r:Reach} {b0:Nat} (hv:Value.okWide Tryz.prog w r b0 22 v) (h:DataW.Trod enc Tryz.prog w 0 (fun _=>true) held 22 v d p) :
    ∃ (A:Option Addr) (qs:List CA) (c:Nat),v= .slice A qs.length c∧qs.length≤c∧(∀ a∈qs,a.Good w)∧Rc w [] A (qs.map CA.cells).flatten:=by
  obtain ⟨fuel,hf⟩:=h
  obtain ⟨A,Ws,c,h1,h2,_,h4,h5⟩:=pg TR RD ae hf
  obtain ⟨l,hl,hs⟩:=qR (f:=CA.cells) (Pr:=fun a=>a.Good w) Ws (fun W hW=>by
    obtain ⟨hl,m,y,hy⟩:=h4 W hW
    exact FB hl hy)
  subst hl
  rw [List.length_map] at h1 h2
  exact ⟨A,l,c,wJ TR hv h1,h2,hs,h5.rc⟩
end Go.Proofs.YtpomngkcfbnjoaaGreatDoor
