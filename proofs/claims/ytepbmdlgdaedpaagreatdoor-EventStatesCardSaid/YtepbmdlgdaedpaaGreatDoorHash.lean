/- Texts that belong together, one behind the other. -/
import Derived.Test.YtepbmdlgdaedpaaGreatDoorOpenR
import Derived.Test.YtepbmdlgdaedpaaGreatDoorStep
import Derived.Test.YtepbmdlgdaedpaaGreatDoorSha
namespace Go.Dk
open Go Go.ChangeShapes Go.WideShapes Go.ChangeAt Go.RowKit Go.Deep
section
variable {H:Type} {enc:TypeId × Value→H} {P:Program} {w:World} {held:Bool} {t e:TypeId} {v:Value} {d:DataW H} {p:List MemPlace} {cs:List Value} {x:DataW H × List MemPlace} {fuel:Nat}
theorem yu {sz:Nat} (ht:P.underlying t=some (.slice e)) (hsz:P.cellsOf e=sz) (hpos:0<sz) (h:DataW.trod enc P w 0 (fun _=>true) held fuel t cs=some x) :
    ∃ (A:Option Addr) (Ws:List (List Value)) (c:Nat),cs=[.slice A Ws.length c]∧Ws.length≤c∧Ws.length≤9223372036854775807∧(∀ W∈Ws,W.length=sz∧∃ m y,DataW.trod enc P w 0 (fun _=>true) held m e W=some y∧∃ es sp,x.1= .slice es sp∧y.1∈es)∧(Ws.length=0∨∃ es sp,x.1= .slice es sp∧es.length=Ws.length)∧Cl w A Ws.flatten:=by
  rcases DataW.trod_slice ht h with ⟨hcs,hx⟩ | ⟨a,len,cap,elems,rest,m,_,hcs,hx,_,hlc,hcm,hel,hget,_,_⟩
  · exact ⟨none,[],0,hcs,Qw _,ae,(fun _ h=>by cases h),.inl rfl,fun h=>absurd rfl h⟩
  · have hmx:maxLen=9223372036854775807:=rfl
    rw [hsz] at hget
    have each:∀ i,i<len→∃ (y:List Value × (DataW H × List MemPlace)),w.cells? 0 (a.add (i*sz)) sz=some y.1∧DataW.trod enc P w 0 (fun _=>true) held m e y.1=some y.2∧elems[i]? = some y.2:=by
      intro i hi
      have h1:=hget i hi
      have h2:elems[i]? = some (elems[i]'ag):=List.getElem?_eq_getElem ag
      rw [h2] at h1
      obtain ⟨cs,h3,h4⟩:=Option.bind_eq_some_iff.1 h1
      exact ⟨(cs,elems[i]'ag),h3,h4,h2⟩
    obtain ⟨y,hy⟩:=choose_lt each
    have hws:∀ W∈(List.range len).map (fun i=>(y i).1),W.length=sz∧∃ m y,DataW.trod enc P w 0 (fun _=>true) held m e W=some y∧∃ es sp,x.1= .slice es sp∧y.1∈es:=by
      intro W hW
      obtain ⟨i,hi,rfl⟩:=List.mem_map.1 hW
      have hi:=List.mem_range.1 hi
      obtain ⟨_,hl1,_⟩:=World.cells?_some (hy i hi).1
      exact ⟨hl1,m,_,(hy i hi).2.1,_,_,(Prod.mk.inj hx).1,List.mem_map.2 ⟨_,List.mem_of_getElem? (hy i hi).2.2,rfl⟩⟩
    refine ⟨some a,(List.range len).map (fun i=>(y i).1),cap,by simp [hcs],by simp; omega,by simp; omega,hws,.inr ⟨_,_,(Prod.mk.inj hx).1,by simp; omega⟩,fun hne=>?_⟩
    have hn:0<len:=by
      rcases Nat.eq_zero_or_pos len with h0 | h0
      · subst h0; simp at hne
      · exact h0
    obtain ⟨_,hl0,h0⟩:=World.cells?_some (hy 0 hn).1
    have h00:=h0 0 hpos
    rw [List.getElem?_eq_getElem ag] at h00
    have e0:a.add (0*sz)=a:=by rw [Nat.zero_mul]; simp [Addr.add]
    rw [e0] at h00
    have hp:=CP h00 rfl
    refine ⟨a.block,a.off,by rw [← hp],?_,fun k hk=>?_⟩
    · have:=block_lt_of_cell h00
      simpa [Addr.add] using this
    · rw [zM (fun W hW=>(hws W hW).1)] at hk
      simp only [List.length_map,List.length_range] at hk
      have hkd:k/sz<len:=(Nat.div_lt_iff_lt_mul hpos).2 hk
      have hkm:=Nat.mod_lt k hpos
      have hke:=Nat.div_add_mod k sz
      rw [Nat.mul_comm] at hke
      obtain ⟨hat,hle⟩:=flat_at (z:=sz) (Ws:=(List.range len).map (fun i=>(y i).1)) (V:=(y (k/sz)).1) (i:=k/sz) (fun W hW=>(hws W hW).1) (by rw [List.getElem?_map,List.getElem?_range hkd]; rfl)
      obtain ⟨_,_,h1⟩:=World.cells?_some (hy (k/sz) hkd).1
      have h2:=h1 (k%sz) hkm
      rw [hp,Addr.add_mid,Addr.add_mid,Nat.add_assoc,hke] at h2
      rw [h2,← hat,List.getElem?_take,if_pos hkm,List.getElem?_drop,hke]
def Small (P:Program) (t:TypeId) (d:DataW H):Prop:=∀ k∈DataW.weights P t d,k≤reachBytes
theorem pJ {ts:List TypeId} {ds:List (DataW H)} {j:Nat} (hz:(DataW.weightsEach P ts ds).all (· ≤ reachBytes)=true) (ht:ts[j]? = some t) (hd:ds[j]? = some d):Small P t d:=fun k hk=>by
  simpa using List.all_eq_true.1 hz _ (DataW.weights_mem_each ht hd _ hk)
theorem qy {sz bytes:Nat} (ht:P.underlying t=some (.slice e)) (hsz:P.cellsOf e=sz) (hpos:0<sz) (hb:P.bytesOf e=bytes) (hz:Small P t x.1) (h:DataW.trod enc P w 0 (fun _=>true) held fuel t cs=some x) :
    ∃ (A:Option Addr) (Ws:List (List Value)) (c:Nat),cs=[.slice A Ws.length c]∧Ws.length≤c∧Ws.length≤9223372036854775807∧(∀ W∈Ws,W.length=sz∧∃ m y,DataW.trod enc P w 0 (fun _=>true) held m e W=some y∧Small P e y.1)∧Ws.length*bytes≤reachBytes∧Cl w A Ws.flatten:=by
  obtain ⟨A,Ws,c,h1,h2,h3,h4,h5,h6⟩:=yu ht hsz hpos h
  refine ⟨A,Ws,c,h1,h2,h3,fun W hW=>?_,?_,h6⟩
  · obtain ⟨hl,m,y,hy,es,sp,hd,hye⟩:=h4 W hW
    refine ⟨hl,m,y,hy,fun k hk=>hz k ?_⟩
    rw [hd]
    exact yG ht hye hk
  · rcases h5 with h5 | ⟨es,sp,hd,hl⟩
    · rw [h5,Nat.zero_mul]; exact Qs _
    · have hm:(es.length+sp.length)*P.bytesOf e∈DataW.weights P t x.1:=by
        rw [hd,DataW.weights,ht]
        exact Qx ..
      have h1:=hz _ hm
      rw [hb,Nat.add_mul,hl] at h1
      omega
end
end Go.Dk
namespace Go.Proofs.YtepbmdlgdaedpaaGreatDoor
open Go.ChangeShapes Go.WideShapes Go.ChangeAt Go.RowKit Go.Dk Go.Deep
theorem zy:Tryz.prog.cellsOf 9=1:=af
theorem Og:Tryz.prog.cellsOf 22=1:=af
theorem xG:Tryz.prog.cellsOf 23=1:=af
theorem Oe:Tryz.prog.cellsOf 25=4:=af
theorem Oc:Tryz.prog.cellsOf 50=1:=af
theorem Ob:Tryz.prog.cellsOf 52=39:=af
theorem Oa:Tryz.prog.cellsOf 76=5:=af
theorem PI:Tryz.prog.bytesOf 9=16:=af
theorem KJ {n:Nat} (h:n*16≤reachBytes):n<8796093022000:=by
  have e:reachBytes=140737488351232:=ae
  omega
theorem jZ {H:Type} {enc:TypeId × Value→H} {w:World} {held:Bool} {cs:List Value} {x:DataW H × List MemPlace} {fuel:Nat} (hz:Small Tryz.prog 23 x.1) (h:DataW.trod enc Tryz.prog w 0 (fun _=>true) held fuel 23 cs=some x):∃ (A:Option Addr) (l:List (List UInt8)) (c:Nat),cs=[.slice A l.length c]∧l.length<8796093022000∧Rc w [] A (l.map ak):=by
  obtain ⟨A,Ws,c,h1,h2,h3,h4,h7,h5⟩:=qy Qr zy ae PI hz h
  obtain ⟨l,hl,_⟩:=uH (f:=fun s=>[ak s]) (Pr:=fun _=>True) Ws (fun W hW=>by
    obtain ⟨hl,m,y,hy,_⟩:=h4 W hW
    obtain ⟨s,hs⟩:=lV QB hy
    exact ⟨s,hs,trivial⟩)
  subst hl
  rw [List.length_map] at h1 h3 h7
  rw [flat_one] at h5
  exact ⟨A,l,c,h1,KJ h7,h5.rc⟩
set_option maxRecDepth 100000 in
theorem Cj {H:Type} {enc:TypeId × Value→H} {w:World} {held:Bool} {cs:List Value} {x:DataW H × List MemPlace} {fuel:Nat} (hlen:cs.length=4) (hz:Small Tryz.prog 25 x.1) (h:DataW.trod enc Tryz.prog w 0 (fun _=>true) held fuel 25 cs=some x):∃ a:VA,cs=a.cells∧a.Ok w []∧a.v.s.length<8796093022000:=by
  obtain ⟨xs,n,_,hxf,_,xsl,xse⟩:=DataW.trod_struct QE h
  have xs2:xs.length=4:=xsl
  have g (i:Nat) (hi:i<4):xs[i]? = some xs[i]:=List.getElem?_eq_getElem ag
  have hdf:x.1= .agg (xs.map (·.1)):=by rw [hxf]
  have f0:DataW.trod enc Tryz.prog w 0 (fun _=>true) held n 22 (((cs).drop 0).take (Tryz.prog.cellsOf 22))=xs[0]? := xse 0 _ rfl
  rw [g 0 ag,Og] at f0
  have f1:DataW.trod enc Tryz.prog w 0 (fun _=>true) held n 3 (((cs).drop 1).take (Tryz.prog.cellsOf 3))=xs[1]? := xse 1 _ rfl
  rw [g 1 ag,PM] at f1
  have f2:DataW.trod enc Tryz.prog w 0 (fun _=>true) held n 9 (((cs).drop 2).take (Tryz.prog.cellsOf 9))=xs[2]? := xse 2 _ rfl
  rw [g 2 ag,zy] at f2
  have f3:DataW.trod enc Tryz.prog w 0 (fun _=>true) held n 23 (((cs).drop 3).take (Tryz.prog.cellsOf 23))=xs[3]? := xse 3 _ rfl
  rw [g 3 ag,xG] at f3
  have zf3:Small Tryz.prog 23 xs[3].1:=fun k hk=>hz k (by
    rw [hdf,DataW.weights,QE]
    exact DataW.weights_mem_each (j:=3) (t:=23) (d:=xs[3].1) rfl (by rw [List.getElem?_map,g 3 ag]; rfl) _ hk)
  obtain ⟨k,e0,k1,k2⟩:=oD QI f0
  obtain ⟨z,e1,z1,z2⟩:=oD QD f1
  obtain ⟨t,e2⟩:=lV QB f2
  obtain ⟨sA,s,sC,e3,hs,hr⟩:=jZ zf3 f3
  refine ⟨⟨⟨k,z,t,s⟩,sA,sC⟩,?_,⟨hr,by show s.length≤_; omega,⟨⟨k1,k2⟩,⟨z1,z2⟩⟩⟩,hs⟩
  have s0:=dH (cs) 0 1
  have s1:=dH (cs) 1 1
  have s2:=dH (cs) 2 1
  have s3:=dH (cs) 3 1
  rw [e0] at s0
  rw [e1] at s1
  rw [e2] at s2
  rw [e3] at s3
  have z3:cs.drop (3+1)=[]:=List.drop_of_length_le ag
  rw [z3] at s3
  rw [List.drop_zero] at s0
  rw [s0,s1,s2,s3]
  simp [VA.cells,Val.cells]
set_option maxRecDepth 100000 in
theorem Ar {H:Type} {enc:TypeId × Value→H} {w:World} {held:Bool} {cs:List Value} {x:DataW H × List MemPlace} {fuel:Nat} (hlen:cs.length=5) (hz:Small Tryz.prog 76 x.1) (h:DataW.trod enc Tryz.prog w 0 (fun _=>true) held fuel 76 cs=some x):∃ b:List UInt8 × VA,cs=gz b∧b.2.Ok w []∧b.2.v.s.length<8796093022000:=by
  obtain ⟨xs,n,_,hxf,_,xsl,xse⟩:=DataW.trod_struct QP h
  have xs2:xs.length=2:=xsl
  have g (i:Nat) (hi:i<2):xs[i]? = some xs[i]:=List.getElem?_eq_getElem ag
  have hdf:x.1= .agg (xs.map (·.1)):=by rw [hxf]
  have f0:DataW.trod enc Tryz.prog w 0 (fun _=>true) held n 9 (((cs).drop 0).take (Tryz.prog.cellsOf 9))=xs[0]? := xse 0 _ rfl
  rw [g 0 ag,zy] at f0
  have f1:DataW.trod enc Tryz.prog w 0 (fun _=>true) held n 25 (((cs).drop 1).take (Tryz.prog.cellsOf 25))=xs[1]? := xse 1 _ rfl
  rw [g 1 ag,Oe] at f1
  have zf1:Small Tryz.prog 25 xs[1].1:=fun k hk=>hz k (by
    rw [hdf,DataW.weights,QP]
    exact DataW.weights_mem_each (j:=1) (t:=25) (d:=xs[1].1) rfl (by rw [List.getElem?_map,g 1 ag]; rfl) _ hk)
  obtain ⟨nm,e0⟩:=lV QB f0
  obtain ⟨va,e1,hva⟩:=Cj (by simp only [List.length_take,List.length_drop]; omega) zf1 f1
  refine ⟨(nm,va),?_,hva⟩
  have s0:=dH (cs) 0 1
  have s1:=dH (cs) 1 4
  rw [e0] at s0
  rw [e1] at s1
  have z1:cs.drop (1+4)=[]:=List.drop_of_length_le ag
  rw [z1] at s1
  rw [List.drop_zero] at s0
  rw [s0,s1]
  simp [gz,VA.cells,Val.cells]
theorem PH:Tryz.prog.bytesOf 76=72:=af
set_option maxRecDepth 100000 in
theorem Aq {H:Type} {enc:TypeId × Value→H} {w:World} {held:Bool} {cs:List Value} {x:DataW H × List MemPlace} {fuel:Nat} (hlen:cs.length=39) (hz:Small Tryz.prog 52 x.1) (h:DataW.trod enc Tryz.prog w 0 (fun _=>true) held fuel 52 cs=some x):∃ c:CA,cs=c.cells∧c.Ok w []∧(∀ b∈c.vals,b.2.v.s.length<8796093022000)∧c.vals.length*72≤reachBytes∧c.opn.length<8796093022000∧c.clo.length<8796093022000∧c.rea.length<8796093022000:=by
  obtain ⟨xs,n,_,hxf,_,xsl,xse⟩:=DataW.trod_struct QL h
  have xs2:xs.length=8:=xsl
  have g (i:Nat) (hi:i<8):xs[i]? = some xs[i]:=List.getElem?_eq_getElem ag
  have hdf:x.1= .agg (xs.map (·.1)):=by rw [hxf]
  have f0:DataW.trod enc Tryz.prog w 0 (fun _=>true) held n 9 (((cs).drop 0).take (Tryz.prog.cellsOf 9))=xs[0]? := xse 0 _ rfl
  rw [g 0 ag,zy] at f0
  have f1:DataW.trod enc Tryz.prog w 0 (fun _=>true) held n 9 (((cs).drop 1).take (Tryz.prog.cellsOf 9))=xs[1]? := xse 1 _ rfl
  rw [g 1 ag,zy] at f1
  have f2:DataW.trod enc Tryz.prog w 0 (fun _=>true) held n 3 (((cs).drop 2).take (Tryz.prog.cellsOf 3))=xs[2]? := xse 2 _ rfl
  rw [g 2 ag,PM] at f2
  have f3:DataW.trod enc Tryz.prog w 0 (fun _=>true) held n 29 (((cs).drop 3).take (Tryz.prog.cellsOf 29))=xs[3]? := xse 3 _ rfl
  rw [g 3 ag,Ot] at f3
  have f4:DataW.trod enc Tryz.prog w 0 (fun _=>true) held n 50 (((cs).drop 35).take (Tryz.prog.cellsOf 50))=xs[4]? := xse 4 _ rfl
  rw [g 4 ag,Oc] at f4
  have zf4:Small Tryz.prog 50 xs[4].1:=fun k hk=>hz k (by
    rw [hdf,DataW.weights,QL]
    exact DataW.weights_mem_each (j:=4) (t:=50) (d:=xs[4].1) rfl (by rw [List.getElem?_map,g 4 ag]; rfl) _ hk)
  have f5:DataW.trod enc Tryz.prog w 0 (fun _=>true) held n 23 (((cs).drop 36).take (Tryz.prog.cellsOf 23))=xs[5]? := xse 5 _ rfl
  rw [g 5 ag,xG] at f5
  have zf5:Small Tryz.prog 23 xs[5].1:=fun k hk=>hz k (by
    rw [hdf,DataW.weights,QL]
    exact DataW.weights_mem_each (j:=5) (t:=23) (d:=xs[5].1) rfl (by rw [List.getElem?_map,g 5 ag]; rfl) _ hk)
  have f6:DataW.trod enc Tryz.prog w 0 (fun _=>true) held n 23 (((cs).drop 37).take (Tryz.prog.cellsOf 23))=xs[6]? := xse 6 _ rfl
  rw [g 6 ag,xG] at f6
  have zf6:Small Tryz.prog 23 xs[6].1:=fun k hk=>hz k (by
    rw [hdf,DataW.weights,QL]
    exact DataW.weights_mem_each (j:=6) (t:=23) (d:=xs[6].1) rfl (by rw [List.getElem?_map,g 6 ag]; rfl) _ hk)
  have f7:DataW.trod enc Tryz.prog w 0 (fun _=>true) held n 23 (((cs).drop 38).take (Tryz.prog.cellsOf 23))=xs[7]? := xse 7 _ rfl
  rw [g 7 ag,xG] at f7
  have zf7:Small Tryz.prog 23 xs[7].1:=fun k hk=>hz k (by
    rw [hdf,DataW.weights,QL]
    exact DataW.weights_mem_each (j:=7) (t:=23) (d:=xs[7].1) rfl (by rw [List.getElem?_map,g 7 ag]; rfl) _ hk)
  obtain ⟨nm,e0⟩:=lV QB f0
  obtain ⟨ty,e1⟩:=lV QB f1
  obtain ⟨cn,e2,_,_⟩:=oD QD f2
  obtain ⟨ch,e3,hch⟩:=rG QA QJ PL (by simp only [List.length_take,List.length_drop]; omega) f3
  obtain ⟨vA,Ws,vC,e4,_,a3,a4,a7,a5⟩:=qy QQ Oa ae PH zf4 f4
  obtain ⟨bs,hbs,hok⟩:=uH (f:=gz) (Pr:=fun b=>b.2.Ok w []∧b.2.v.s.length<8796093022000) Ws (fun W hW=>by
    obtain ⟨hl,m,y,hy,hyz⟩:=a4 W hW
    exact Ar hl hyz hy)
  subst hbs
  rw [List.length_map] at e4 a3 a7
  obtain ⟨oA,opn,oC,e5,o1,o2⟩:=jZ zf5 f5
  obtain ⟨cA,clo,cC,e6,c1,c2⟩:=jZ zf6 f6
  obtain ⟨rA,rea,rC,e7,r1,r2⟩:=jZ zf7 f7
  refine ⟨⟨nm,ty,cn,ch,bs,vA,vC,opn,oA,oC,clo,cA,cC,rea,rA,rC⟩,?_,⟨hch,fun b hb=>(hok b hb).1,a5.rc,a3,o2,by show opn.length≤_; omega,c2,by show clo.length≤_; omega,r2,by show rea.length≤_; omega⟩,fun b hb=>(hok b hb).2,a7,o1,c1,r1⟩
  have s0:=dH (cs) 0 1
  have s1:=dH (cs) 1 1
  have s2:=dH (cs) 2 1
  have s3:=dH (cs) 3 32
  have s4:=dH (cs) 35 1
  have s5:=dH (cs) 36 1
  have s6:=dH (cs) 37 1
  have s7:=dH (cs) 38 1
  rw [e0] at s0
  rw [e1] at s1
  rw [e2] at s2
  rw [e3] at s3
  rw [e4] at s4
  rw [e5] at s5
  rw [e6] at s6
  rw [e7] at s7
  have z7:cs.drop (38+1)=[]:=List.drop_of_length_le ag
  rw [z7] at s7
  rw [List.drop_zero] at s0
  rw [s0,s1,s2,s3,s4,s5,s6,s7]
  simp [CA.cells,CA.tl]
set_option maxRecDepth 100000 in
theorem BJ {H:Type} {enc:TypeId × Value→H} {w:World} {held:Bool} {v:Value} {d:DataW H} {p:List MemPlace} {r:Reach} {b0:Nat} (hv:Value.okWide Tryz.prog w r b0 52 v) (h:DataW.Trod enc Tryz.prog w 0 (fun _=>true) held 52 v d p) (hz:Small Tryz.prog 52 d):∃ c:CA,v= .agg c.cells.toArray∧c.Ok w []∧(∀ b∈c.vals,b.2.v.s.length<8796093022000)∧c.vals.length*72≤reachBytes∧c.opn.length<8796093022000∧c.clo.length<8796093022000∧c.rea.length<8796093022000:=by
  obtain ⟨cs,rfl,hsz⟩:∃ cs,v= .agg cs∧cs.size=Tryz.prog.cellsOf 52:=by
    obtain ⟨cs,h1,h2,_⟩:∃ cs,v= .agg cs∧cs.size=Tryz.prog.cellsOf 52∧Row.okWide Tryz.prog w r b0 52 cs:=by simpa [Value.okWide,QL] using hv
    exact ⟨cs,h1,h2⟩
  rw [Ob] at hsz
  obtain ⟨fuel,hf⟩:=h
  have hc:(Value.agg cs).cells.toList=cs.toList:=rfl
  rw [hc] at hf
  obtain ⟨a,h1,h2⟩:=Aq (by simpa using hsz) (x:=(d,p)) hz hf
  exact ⟨a,by rw [← h1],h2⟩
set_option maxRecDepth 100000 in
theorem oQ {H:Type} {enc:TypeId × Value→H} {w:World} {held:Bool} {v:Value} {d:DataW H} {p:List MemPlace} {r:Reach} {b0:Nat} (hv:Value.okWide Tryz.prog w r b0 23 v) (h:DataW.Trod enc Tryz.prog w 0 (fun _=>true) held 23 v d p) (hz:Small Tryz.prog 23 d):∃ (A:Option Addr) (l:List (List UInt8)) (c:Nat),v= .slice A l.length c∧l.length<8796093022000∧Rc w [] A (l.map ak):=by
  obtain ⟨fuel,hf⟩:=h
  obtain ⟨A,l,c,h1,h2,h3⟩:=jZ (x:=(d,p)) hz hf
  exact ⟨A,l,c,tK Qr hv h1,h2,h3⟩
end Go.Proofs.YtepbmdlgdaedpaaGreatDoor
namespace Go.Dk
open Go
theorem qE (a b:Nat):add32 a b<4294967296:=Nat.mod_lt _ ae
theorem mZ (st:List Nat) (bs:List UInt8):(compress st bs).length=8:=by simp [compress]
theorem Af (st:List Nat) (bs:List UInt8):∀ x∈compress st bs,x<4294967296:=by
  intro x hx
  simp only [compress,List.mem_map] at hx
  obtain ⟨i,_,rfl⟩:=hx
  exact qE _ _
theorem bi (n:Nat) (st:List Nat) (bs:List UInt8) (h:st.length=8):(blocks n st bs).length=8:=by
  induction n generalizing st bs with
  | zero=>exact h
  | succ n ih=>exact ih _ _ (mZ _ _)
theorem oG (n:Nat) (st:List Nat) (bs:List UInt8) (h:∀ x∈st,x<4294967296):∀ x∈blocks n st bs,x<4294967296:=by
  induction n generalizing st bs with
  | zero=>exact h
  | succ n ih=>exact ih _ _ (Af _ _)
theorem oZ (n:Nat) (st:List Nat) (bs:List UInt8):blocks (n+1) st bs=compress (blocks n st bs) ((bs.drop (64*n)).take 64):=by
  induction n generalizing st bs with
  | zero=>simp [blocks]
  | succ n ih =>
    have h1:blocks (n+1+1) st bs=blocks (n+1) (compress st (bs.take 64)) (bs.drop 64):=rfl
    have h2:blocks (n+1) st bs=blocks n (compress st (bs.take 64)) (bs.drop 64):=rfl
    rw [h1,ih,h2,List.drop_drop,show 64+64*n=64*(n+1) by omega]
theorem gm (n:Nat) (st:List Nat) (a b:List UInt8) (h:64*n≤a.length):blocks n st (a++b)=blocks n st a:=by
  induction n generalizing st a with
  | zero=>rfl
  | succ n ih =>
    show blocks n (compress st ((a++b).take 64)) ((a++b).drop 64)=blocks n (compress st (a.take 64)) (a.drop 64)
    rw [List.take_append_of_le_length ag,List.drop_append_of_le_length ag]
    exact ih _ _ (by simp; omega)
theorem qf:init8.length=8:=rfl
theorem qc:∀ x∈init8,x<4294967296:=ae
def wc (l:List Nat):List Value:=l.map fun x:Nat=>Value.int .u32 (x:Int)
theorem bz (l:List Nat):(wc l).length=l.length:=by simp [wc]
theorem ny {l:List Nat} {i:Nat} (h:i<l.length):(wc l)[i]? = some (.int .u32 (wAt l i:Nat)):=by simp [wc,wAt,h]
def hcells (st:List Nat) (rest:List UInt8) (n:Nat):List Value:=wc st++(dc rest++[.int .u64 (n:Int)])
section
variable {st st':List Nat} {rest rest':List UInt8} {n n':Nat}
theorem dQ (h:st.length=8) (h':rest.length=64):(hcells st rest n).length=73:=by simp [hcells,bz,aN,h,h']
theorem ja (h:st.length=8) (h':rest.length=64):(hcells st rest n)[72]? = some (.int .u64 (n:Int)):=by
  unfold hcells
  rw [List.getElem?_append_right (by rw [bz,h]; decide),bz,h,List.getElem?_append_right (by rw [aN,h']; decide),aN,h']
  rfl
theorem jH (h:st.length=8) (h':rest.length=64):(hcells st rest n).set 72 (.int .u64 (n':Int))=hcells st rest n':=by
  unfold hcells
  rw [List.set_append,if_neg (by rw [bz,h]; decide),bz,h,List.set_append,if_neg (by rw [aN,h']; decide),aN,h']
  rfl
theorem wI (h:st.length=8):((hcells st rest n).drop 0).take 8=wc st:=by
  unfold hcells
  rw [List.drop_zero,List.take_append_of_le_length (by rw [bz,h]; decide),Qz (by rw [bz,h]; decide)]
theorem vF (h:st.length=8) (h2:st'.length=8):splice (hcells st rest n) 0 (wc st')=hcells st' rest n:=by
  unfold splice hcells
  rw [bz,h2,List.take_zero,List.nil_append,Nat.zero_add,List.drop_append_of_le_length (by rw [bz,h]; decide),List.drop_of_length_le (by rw [bz,h]; decide),List.nil_append]
theorem xY (h:st.length=8) {i:Nat} (hi:i<8):(hcells st rest n)[0+i]? = some (.int .u32 (wAt st i:Nat)):=by
  unfold hcells
  rw [Nat.zero_add,List.getElem?_append_left (by rw [bz,h]; exact hi),ny (by rw [h]; exact hi)]
theorem zG (h:st.length=8) (h':rest.length=64):((hcells st rest n).drop 8).take rest.length=dc rest:=by
  unfold hcells
  rw [List.drop_append_of_le_length (by rw [bz,h]; decide),List.drop_of_length_le (by rw [bz,h]; decide),List.nil_append,List.take_append_of_le_length (by rw [aN,h']; decide),Qz (by rw [aN]; exact Qw _)]
def put (rest:List UInt8) (o:Nat) (l:List UInt8):List UInt8:=rest.take o++l++rest.drop (o+l.length)
theorem kT {o:Nat} {l:List UInt8} (h:o+l.length≤rest.length):(put rest o l).length=rest.length:=by simp [put]; omega
theorem oU {o:Nat} {l:List UInt8} (h:st.length=8) (h':rest.length=64) (hl:o+l.length≤64):splice (hcells st rest n) (8+o) (dc l)=hcells st (put rest o l) n:=by
  unfold splice hcells put
  rw [bK,bK,aN]
  rw [List.take_append,bz,h,show 8+o-8=o by omega,Qz (by rw [bz,h]; omega),List.take_append_of_le_length (by rw [aN,h']; omega),dc_take]
  rw [List.drop_append,bz,h,List.drop_of_length_le (by rw [bz,h]; omega),List.nil_append,show 8+o+l.length-8=o+l.length by omega,List.drop_append_of_le_length (by rw [aN,h']; omega),DN]
  simp only [List.append_assoc]
end
def HS (m:List UInt8) (cs:List Value):Prop :=
  ∃ rest:List UInt8,rest.length=64∧rest.take (m.length%64)=m.drop (m.length/64*64)∧cs=hcells (blocks (m.length/64) init8 m) rest m.length
theorem HS.new:HS [] (hcells init8 (List.replicate 64 0) 0):=⟨List.replicate 64 0,by simp,by simp,rfl⟩
theorem HS.tail (m l:List UInt8) (rest:List UInt8) (hr:rest.length=64) (hm:m.length%64=0) (hl:l.length<64) :
    HS (m++l) (hcells (blocks (m.length/64) init8 m) (put rest 0 l) (m.length+l.length)):=by
  have e1:(m++l).length/64=m.length/64:=by rw [List.length_append]; omega
  have e2:(m++l).length%64=l.length:=by rw [List.length_append]; omega
  have e3:m.length/64*64=m.length:=by omega
  refine ⟨put rest 0 l,by rw [kT ag,hr],?_,?_⟩
  · rw [e2,e1,e3]
    simp [put]
  · rw [e1,gm _ _ _ _ ag,List.length_append]
theorem HS.part (m l:List UInt8) (rest:List UInt8) (hr:rest.length=64) (ht:rest.take (m.length%64)=m.drop (m.length/64*64)) (hl:m.length%64+l.length<64) :
    HS (m++l) (hcells (blocks (m.length/64) init8 m) (put rest (m.length%64) l) (m.length+l.length)):=by
  have e1:(m++l).length/64=m.length/64:=by rw [List.length_append]; omega
  have e2:(m++l).length%64=m.length%64+l.length:=by rw [List.length_append]; omega
  refine ⟨put rest (m.length%64) l,by rw [kT ag,hr],?_,?_⟩
  · rw [e2,e1,List.drop_append_of_le_length ag,← ht]
    unfold put
    rw [List.take_append_of_le_length (by simp; omega),Qz (by simp; omega)]
  · rw [e1,gm _ _ _ _ ag,List.length_append]
theorem fills (m l:List UInt8) (rest:List UInt8) (hr:rest.length=64) (ht:rest.take (m.length%64)=m.drop (m.length/64*64)) (hl:m.length%64+l.length=64) :
    compress (blocks (m.length/64) init8 m) (put rest (m.length%64) l)=blocks ((m++l).length/64) init8 (m++l)∧(m++l).length%64=0:=by
  have e1:(m++l).length/64=m.length/64+1:=by rw [List.length_append]; omega
  refine ⟨?_,by rw [List.length_append]; omega⟩
  rw [e1,oZ,gm _ _ _ _ ag]
  congr 1
  have h1:put rest (m.length%64) l=m.drop (m.length/64*64)++l:=by
    unfold put
    have h2:rest.drop 64=[]:=List.drop_of_length_le ag
    rw [ht,hl,h2,List.append_nil]
  rw [h1,List.drop_append_of_le_length ag,Qz (by simp; omega),Nat.mul_comm]
theorem uO (m l:List UInt8) (j:Nat) (hm:m.length%64=0) :
    compress (blocks (m.length/64+j) init8 (m++l)) ((l.drop (64*j)).take 64)=blocks (m.length/64+(j+1)) init8 (m++l):=by
  rw [← Nat.add_assoc,oZ]
  congr 2
  have h2:m.drop (64*(m.length/64+j))=[]:=List.drop_of_length_le ag
  rw [List.drop_append,h2,List.nil_append]
  congr 1
  omega
end Go.Dk
