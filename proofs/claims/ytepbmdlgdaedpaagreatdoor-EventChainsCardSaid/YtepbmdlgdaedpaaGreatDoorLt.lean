/- Texts that belong together, one behind the other. -/
import Derived.Test.YtepbmdlgdaedpaaGreatDoorEv7
import Derived.Test.YtepbmdlgdaedpaaGreatDoorCell
import Derived.Lib.LaidTab
namespace Go.Proofs.YtepbmdlgdaedpaaGreatDoor
open Go.ChangeShapes Go.WideShapes Go.ChangeAt Go.RowKit Go.Dk Go.Deep
theorem Bf:Tryz.prog.cellsOf 3=1:=af
theorem J5:Tryz.prog.cellsOf 5=1:=af
theorem xR:Tryz.prog.cellsOf 9=1:=af
theorem KX:Tryz.prog.cellsOf 22=1:=af
theorem KW:Tryz.prog.cellsOf 23=1:=af
theorem EY:Tryz.prog.cellsOf 25=4:=af
theorem KU:Tryz.prog.cellsOf 26=1:=af
theorem KT:Tryz.prog.cellsOf 27=1:=af
theorem KR:Tryz.prog.cellsOf 29=32:=af
theorem KQ:Tryz.prog.cellsOf 31=44:=af
theorem tZ {H:Type} {enc:TypeId × Value→H} {P:Program} {w:World} {base:Nat} {sp:Nat→Bool} {held:Bool} {fuel:Nat} {t e:TypeId} {n:Nat} {cs:List Value} {zs:List (List UInt8)} {p:List MemPlace}
    (ht:P.underlying t=some (.array n e)) (he:P.underlying e=some .string) (hce:P.cellsOf e=1) (hct:P.cellsOf t=n)
    (h:DataW.trod enc P w base sp held fuel t cs=some (.agg (zs.map fun z=> .lit (.string z)),p)):cs=zs.map aj:=by
  cases fuel with
  | zero=>simp [DataW.trod] at h
  | succ fuel =>
    simp only [DataW.trod,ht,hce,hct,Nat.mul_one] at h
    split at h
    · rename_i hl
      obtain ⟨xs,hm,hx⟩:=Option.map_eq_some_iff.1 h
      have hxs:xs.map (·.1)=zs.map fun z=>(DataW.lit (.string z):DataW H):=by
        have:=congrArg Prod.fst hx
        simpa using this
      have hxl:xs.length=n:=by simpa using Go.Lib.mapM_length hm
      have hzl:zs.length=n:=by
        have:=congrArg List.length hxs
        simp at this
        omega
      apply List.ext_getElem?
      intro i
      by_cases hi:i<n
      · obtain ⟨b,hb,hf⟩:=Go.Lib.mapM_at hm i i (by simp [hi])
        obtain ⟨z,hc,rfl,_⟩:=DataW.trod_string he hf
        have h1:cs[i]? = some (.string z):=by
          have:=congrArg (·[0]?) hc
          simpa [List.getElem?_take,List.getElem?_drop] using this
        have h2:(xs.map (·.1))[i]? = some (DataW.lit (.string z.data.toList):DataW H):=by simp [hb]
        rw [hxs] at h2
        simp only [List.getElem?_map,Option.map_eq_some_iff,DataW.lit.injEq,Lit.string.injEq] at h2
        obtain ⟨z',hz',hz2⟩:=h2
        rw [h1,List.getElem?_map,hz',hz2]
        simp [aj]
      · rw [List.getElem?_eq_none ag,List.getElem?_eq_none (by simp; omega)]
    · cases h
theorem lq {H:Type} {enc:TypeId × Value→H} {w:World} {held:Bool} {cs:List Value} {x:DataW H × List MemPlace} {fuel:Nat} {t:TypeId} (ht:Tryz.prog.underlying t=some .string) (h:DataW.trod enc Tryz.prog w 0 (fun _=>true) held fuel t cs=some x):∃ s:List UInt8,cs=[aj s]:=by
  obtain ⟨s,hc,_,_⟩:=DataW.trod_string ht h
  exact ⟨s.data.toList,by rw [hc]⟩
theorem flat_one (l:List (List UInt8)):(l.map fun s=>[aj s]).flatten=l.map aj:=by
  induction l with
  | nil=>rfl
  | cons a l ih=>rw [List.map_cons,List.flatten_cons,ih]; rfl
theorem Aw {H:Type} {enc:TypeId × Value→H} {w:World} {held:Bool} {cs:List Value} {x:DataW H × List MemPlace} {fuel:Nat} (h:DataW.trod enc Tryz.prog w 0 (fun _=>true) held fuel 23 cs=some x):∃ (A:Option Addr) (l:List (List UInt8)) (c:Nat),cs=[.slice A l.length c]∧l.length≤9223372036854775807∧Rc w [] A (l.map aj):=by
  obtain ⟨A,Ws,c,h1,h2,h3,h4,h5⟩:=mD Oc xR ae h
  obtain ⟨l,hl,_⟩:=kJ (f:=fun s=>[aj s]) (Pr:=fun _=>True) Ws (fun W hW=>by
    obtain ⟨hl,m,y,hy⟩:=h4 W hW
    obtain ⟨s,hs⟩:=lq NY hy
    exact ⟨s,hs,trivial⟩)
  subst hl
  rw [List.length_map] at h1 h3
  rw [flat_one] at h5
  exact ⟨A,l,c,h1,h3,h5.rc⟩
set_option maxRecDepth 100000 in
theorem uJ {H:Type} {enc:TypeId × Value→H} {w:World} {held:Bool} {cs:List Value} {x:DataW H × List MemPlace} {fuel:Nat} (hlen:cs.length=4) (h:DataW.trod enc Tryz.prog w 0 (fun _=>true) held fuel 25 cs=some x):∃ a:VA,cs=a.cells∧a.Ok w []:=by
  obtain ⟨xs,n,_,_,_,xsl,xse⟩:=DataW.trod_struct Ob h
  have xs2:xs.length=4:=xsl
  have g (i:Nat) (hi:i<4):xs[i]? = some xs[i]:=List.getElem?_eq_getElem ag
  have f0:DataW.trod enc Tryz.prog w 0 (fun _=>true) held n 22 (((cs).drop 0).take (Tryz.prog.cellsOf 22))=xs[0]? := xse 0 _ rfl
  rw [g 0 ag,KX] at f0
  have f1:DataW.trod enc Tryz.prog w 0 (fun _=>true) held n 3 (((cs).drop 1).take (Tryz.prog.cellsOf 3))=xs[1]? := xse 1 _ rfl
  rw [g 1 ag,Bf] at f1
  have f2:DataW.trod enc Tryz.prog w 0 (fun _=>true) held n 9 (((cs).drop 2).take (Tryz.prog.cellsOf 9))=xs[2]? := xse 2 _ rfl
  rw [g 2 ag,xR] at f2
  have f3:DataW.trod enc Tryz.prog w 0 (fun _=>true) held n 23 (((cs).drop 3).take (Tryz.prog.cellsOf 23))=xs[3]? := xse 3 _ rfl
  rw [g 3 ag,KW] at f3
  obtain ⟨k,e0,k1,k2⟩:=jZ Oh f0
  obtain ⟨z,e1,z1,z2⟩:=jZ Oa f1
  obtain ⟨t,e2⟩:=lq NY f2
  obtain ⟨sA,s,sC,e3,hs,hr⟩:=Aw f3
  refine ⟨⟨⟨k,z,t,s⟩,sA,sC⟩,?_,⟨hr,hs,⟨⟨k1,k2⟩,⟨z1,z2⟩⟩⟩⟩
  have s0:=dw (cs) 0 1
  have s1:=dw (cs) 1 1
  have s2:=dw (cs) 2 1
  have s3:=dw (cs) 3 1
  rw [e0] at s0
  rw [e1] at s1
  rw [e2] at s2
  rw [e3] at s3
  have z3:cs.drop (3+1)=[]:=List.drop_of_length_le ag
  rw [z3] at s3
  rw [List.drop_zero] at s0
  rw [s0,s1,s2,s3]
  simp [VA.cells,Val.cells]
set_option maxRecDepth 100000 in
theorem yR {H:Type} {enc:TypeId × Value→H} {w:World} {held:Bool} {cs:List Value} {x:DataW H × List MemPlace} {fuel:Nat} (hlen:cs.length=44) (h:DataW.trod enc Tryz.prog w 0 (fun _=>true) held fuel 31 cs=some x):∃ a:EA,cs=a.cells∧a.Ok w []:=by
  obtain ⟨xs,n,_,_,_,xsl,xse⟩:=DataW.trod_struct N9 h
  have xs2:xs.length=10:=xsl
  have g (i:Nat) (hi:i<10):xs[i]? = some xs[i]:=List.getElem?_eq_getElem ag
  have f0:DataW.trod enc Tryz.prog w 0 (fun _=>true) held n 3 (((cs).drop 0).take (Tryz.prog.cellsOf 3))=xs[0]? := xse 0 _ rfl
  rw [g 0 ag,Bf] at f0
  have f1:DataW.trod enc Tryz.prog w 0 (fun _=>true) held n 3 (((cs).drop 1).take (Tryz.prog.cellsOf 3))=xs[1]? := xse 1 _ rfl
  rw [g 1 ag,Bf] at f1
  have f2:DataW.trod enc Tryz.prog w 0 (fun _=>true) held n 3 (((cs).drop 2).take (Tryz.prog.cellsOf 3))=xs[2]? := xse 2 _ rfl
  rw [g 2 ag,Bf] at f2
  have f3:DataW.trod enc Tryz.prog w 0 (fun _=>true) held n 9 (((cs).drop 3).take (Tryz.prog.cellsOf 9))=xs[3]? := xse 3 _ rfl
  rw [g 3 ag,xR] at f3
  have f4:DataW.trod enc Tryz.prog w 0 (fun _=>true) held n 9 (((cs).drop 4).take (Tryz.prog.cellsOf 9))=xs[4]? := xse 4 _ rfl
  rw [g 4 ag,xR] at f4
  have f5:DataW.trod enc Tryz.prog w 0 (fun _=>true) held n 9 (((cs).drop 5).take (Tryz.prog.cellsOf 9))=xs[5]? := xse 5 _ rfl
  rw [g 5 ag,xR] at f5
  have f6:DataW.trod enc Tryz.prog w 0 (fun _=>true) held n 25 (((cs).drop 6).take (Tryz.prog.cellsOf 25))=xs[6]? := xse 6 _ rfl
  rw [g 6 ag,EY] at f6
  have f7:DataW.trod enc Tryz.prog w 0 (fun _=>true) held n 26 (((cs).drop 10).take (Tryz.prog.cellsOf 26))=xs[7]? := xse 7 _ rfl
  rw [g 7 ag,KU] at f7
  have f8:DataW.trod enc Tryz.prog w 0 (fun _=>true) held n 27 (((cs).drop 11).take (Tryz.prog.cellsOf 27))=xs[8]? := xse 8 _ rfl
  rw [g 8 ag,KT] at f8
  have f9:DataW.trod enc Tryz.prog w 0 (fun _=>true) held n 29 (((cs).drop 12).take (Tryz.prog.cellsOf 29))=xs[9]? := xse 9 _ rfl
  rw [g 9 ag,KR] at f9
  obtain ⟨op,e0,op1,op2⟩:=jZ Oa f0
  obtain ⟨nu,e1,nu1,nu2⟩:=jZ Oa f1
  obtain ⟨cl,e2,cl1,cl2⟩:=jZ Oa f2
  obtain ⟨ty,e3⟩:=lq NY f3
  obtain ⟨ca,e4⟩:=lq NY f4
  obtain ⟨na,e5⟩:=lq NY f5
  obtain ⟨va,e6,hva⟩:=uJ (by simp only [List.length_take,List.length_drop]; omega) f6
  obtain ⟨aA,Ws,aC,e7,_,a3,a4,a5⟩:=mD Og EY ae f7
  obtain ⟨ws,hws,hok⟩:=kJ (f:=VA.cells) (Pr:=fun a=>a.Ok w []) Ws (fun W hW=>by
    obtain ⟨hl,m,y,hy⟩:=a4 W hW
    exact uJ hl hy)
  subst hws
  rw [List.length_map] at e7 a3
  obtain ⟨bA,src,bC,e8,_,b3,b5⟩:=yT NQ Oi J5 f8
  obtain ⟨eff,e9,heff⟩:=qo N7 Oi J5 (by simp only [List.length_take,List.length_drop]; omega) f9
  refine ⟨⟨op,nu,cl,ty,ca,na,va,ws,aA,aC,src,bA,bC,eff⟩,?_,⟨hva,hok,a5.rc,a3,b5.rc,b3,⟨⟨op1,op2⟩,⟨nu1,nu2⟩,⟨cl1,cl2⟩,hva.i,fun v hv=>?_,heff⟩⟩⟩
  have s0:=dw (cs) 0 1
  have s1:=dw (cs) 1 1
  have s2:=dw (cs) 2 1
  have s3:=dw (cs) 3 1
  have s4:=dw (cs) 4 1
  have s5:=dw (cs) 5 1
  have s6:=dw (cs) 6 4
  have s7:=dw (cs) 10 1
  have s8:=dw (cs) 11 1
  have s9:=dw (cs) 12 32
  rw [e0] at s0
  rw [e1] at s1
  rw [e2] at s2
  rw [e3] at s3
  rw [e4] at s4
  rw [e5] at s5
  rw [e6] at s6
  rw [e7] at s7
  rw [e8] at s8
  rw [e9] at s9
  have z9:cs.drop (12+32)=[]:=List.drop_of_length_le ag
  rw [z9] at s9
  rw [List.drop_zero] at s0
  · rw [s0,s1,s2,s3,s4,s5,s6,s7,s8,s9]
    simp [EA.cells,VA.cells,Val.cells]
  · obtain ⟨a,ha,rfl⟩:=List.mem_map.1 hv
    exact (hok a ha).i
set_option maxRecDepth 100000 in
theorem zX {H:Type} {enc:TypeId × Value→H} {w:World} {held:Bool} {v:Value} {d:DataW H} {p:List MemPlace} {r:Reach} {b0:Nat} (hv:Value.okWide Tryz.prog w r b0 31 v) (h:DataW.Trod enc Tryz.prog w 0 (fun _=>true) held 31 v d p):∃ a:EA,v= .agg a.cells.toArray∧a.Ok w []:=by
  obtain ⟨cs,rfl,hsz⟩:∃ cs,v= .agg cs∧cs.size=Tryz.prog.cellsOf 31:=by
    obtain ⟨cs,h1,h2,_⟩:∃ cs,v= .agg cs∧cs.size=Tryz.prog.cellsOf 31∧Row.okWide Tryz.prog w r b0 31 cs:=by simpa [Value.okWide,N9] using hv
    exact ⟨cs,h1,h2⟩
  rw [KQ] at hsz
  obtain ⟨fuel,hf⟩:=h
  have hc:(Value.agg cs).cells.toList=cs.toList:=rfl
  rw [hc] at hf
  obtain ⟨a,h1,h2⟩:=yR (by simpa using hsz) hf
  exact ⟨a,by rw [← h1],h2⟩
end Go.Proofs.YtepbmdlgdaedpaaGreatDoor
namespace Go.Proofs.YtepbmdlgdaedpaaGreatDoor
open Go.ChangeShapes Go.WideShapes Go.ChangeAt Go.RowKit Go.Dk Go.Deep
theorem DC {P:Program} {W:World} {x:String × DataW Unit} {rest:List (String × DataW Unit)} (h:laidMet P (x::rest) W):laidMet P rest W:=by
  obtain ⟨ps,⟨g,t,cs,fuel,p,q,h1,h2,h3,h4,h5,rfl⟩,hn,hr⟩:=h
  exact ⟨q,h5,(List.nodup_append.1 hn).2.1,fun b off hb=>hr b off (Om _ hb)⟩
theorem Ii {W:World} {name:String} {zs:List (List UInt8)} {rest:List (String × DataW Unit)} {t e:TypeId} {n g:Nat} {P:Program}
    (hg:P.globalNamed name=some g) (hty:(P.globals[g]?).map (·.type)=some t) (ht:P.underlying t=some (.array n e)) (he:P.underlying e=some .string) (hce:P.cellsOf e=1) (hct:P.cellsOf t=n)
    (h:laidMet P ((name,.agg (zs.map fun z=> .lit (.string z)))::rest) W):Rc W [] (some ⟨g,0,none⟩) (zs.map aj):=by
  obtain ⟨ps,⟨g',t',cs,fuel,p,q,hg',ht',hvar,hd,_,_⟩,_⟩:=h
  obtain rfl:=Option.some.inj (hg.symm.trans hg')
  obtain rfl:=Option.some.inj (hty.symm.trans ht')
  have hcs:=tZ ht he hce hct hd
  obtain rfl:cs=(zs.map aj).toArray:=by rw [← hcs]
  intro hne
  have hcell:∀ i,i<(zs.map aj).length→W.cell? ⟨g,i,none⟩=(zs.map aj)[i]? := fun i hi=>by
    have:=World.var?_cell hg hvar i
    simpa using this
  have hlt:g<W.heap.size:=by
    have h0:=hcell 0 (List.length_pos_iff.2 hne)
    rw [List.getElem?_eq_getElem (List.length_pos_iff.2 hne)] at h0
    rcases Nat.lt_or_ge g W.heap.size with h1 | h1
    · exact h1
    · simp [World.cell?,Array.getElem?_eq_none h1] at h0
  refine ⟨g,0,rfl,fun x hx=>⟨by have:=hx.size; omega,fun i hi=>?_⟩⟩
  rw [← hcell i hi,Nat.zero_add]
  simp only [World.cell?,hx.old hlt]
end Go.Proofs.YtepbmdlgdaedpaaGreatDoor
