/- Texts that belong together, one behind the other. -/
import Derived.Test.YtepbmdlgdaedpaaGreatDoorOpenSz
namespace Go.Proofs.YtepbmdlgdaedpaaGreatDoor
open Go.ChangeShapes Go.WideShapes Go.ChangeAt Go.RowKit Go.Dk Go.Deep
theorem LC:Tryz.prog.bytesOf 25=56:=af
set_option maxRecDepth 100000 in
theorem wu {H:Type} {enc:TypeId × Value→H} {w:World} {held:Bool} {cs:List Value} {x:DataW H × List MemPlace} {fuel:Nat} (hlen:cs.length=44) (hz:Small Tryz.prog 31 x.1) (h:DataW.trod enc Tryz.prog w 0 (fun _=>true) held fuel 31 cs=some x):∃ a:EA,cs=a.cells∧a.Ok w []∧a.cas.length≤9223372036854775807∧a.src.length≤140737488351232∧a.src.length≤a.bC∧a.v.v.s.length<8796093022000∧a.args.length<8796093022000∧∀ b∈a.args,b.v.s.length<8796093022000:=by
  obtain ⟨xs,n,_,hxf,_,xsl,xse⟩:=DataW.trod_struct NE h
  have xs2:xs.length=10:=xsl
  have g (i:Nat) (hi:i<10):xs[i]? = some xs[i]:=List.getElem?_eq_getElem ag
  have hdf:x.1= .agg (xs.map (·.1)):=by rw [hxf]
  have f0:DataW.trod enc Tryz.prog w 0 (fun _=>true) held n 3 (((cs).drop 0).take (Tryz.prog.cellsOf 3))=xs[0]? := xse 0 _ rfl
  rw [g 0 ag,Ac] at f0
  have f1:DataW.trod enc Tryz.prog w 0 (fun _=>true) held n 3 (((cs).drop 1).take (Tryz.prog.cellsOf 3))=xs[1]? := xse 1 _ rfl
  rw [g 1 ag,Ac] at f1
  have f2:DataW.trod enc Tryz.prog w 0 (fun _=>true) held n 3 (((cs).drop 2).take (Tryz.prog.cellsOf 3))=xs[2]? := xse 2 _ rfl
  rw [g 2 ag,Ac] at f2
  have f3:DataW.trod enc Tryz.prog w 0 (fun _=>true) held n 9 (((cs).drop 3).take (Tryz.prog.cellsOf 9))=xs[3]? := xse 3 _ rfl
  rw [g 3 ag,xB] at f3
  have f4:DataW.trod enc Tryz.prog w 0 (fun _=>true) held n 9 (((cs).drop 4).take (Tryz.prog.cellsOf 9))=xs[4]? := xse 4 _ rfl
  rw [g 4 ag,xB] at f4
  have f5:DataW.trod enc Tryz.prog w 0 (fun _=>true) held n 9 (((cs).drop 5).take (Tryz.prog.cellsOf 9))=xs[5]? := xse 5 _ rfl
  rw [g 5 ag,xB] at f5
  have f6:DataW.trod enc Tryz.prog w 0 (fun _=>true) held n 25 (((cs).drop 6).take (Tryz.prog.cellsOf 25))=xs[6]? := xse 6 _ rfl
  rw [g 6 ag,Ed] at f6
  have zf6:Small Tryz.prog 25 xs[6].1:=fun k hk=>hz k (by
    rw [hdf,DataW.weights,NE]
    exact DataW.weights_mem_each (j:=6) (t:=25) (d:=xs[6].1) rfl (by rw [List.getElem?_map,g 6 ag]; rfl) _ hk)
  have f7:DataW.trod enc Tryz.prog w 0 (fun _=>true) held n 26 (((cs).drop 10).take (Tryz.prog.cellsOf 26))=xs[7]? := xse 7 _ rfl
  rw [g 7 ag,JO] at f7
  have zf7:Small Tryz.prog 26 xs[7].1:=fun k hk=>hz k (by
    rw [hdf,DataW.weights,NE]
    exact DataW.weights_mem_each (j:=7) (t:=26) (d:=xs[7].1) rfl (by rw [List.getElem?_map,g 7 ag]; rfl) _ hk)
  have f8:DataW.trod enc Tryz.prog w 0 (fun _=>true) held n 27 (((cs).drop 11).take (Tryz.prog.cellsOf 27))=xs[8]? := xse 8 _ rfl
  rw [g 8 ag,JM] at f8
  have zf8:Small Tryz.prog 27 xs[8].1:=fun k hk=>hz k (by
    rw [hdf,DataW.weights,NE]
    exact DataW.weights_mem_each (j:=8) (t:=27) (d:=xs[8].1) rfl (by rw [List.getElem?_map,g 8 ag]; rfl) _ hk)
  have f9:DataW.trod enc Tryz.prog w 0 (fun _=>true) held n 29 (((cs).drop 12).take (Tryz.prog.cellsOf 29))=xs[9]? := xse 9 _ rfl
  rw [g 9 ag,JL] at f9
  obtain ⟨op,e0,op1,op2⟩:=kK NC f0
  obtain ⟨nu,e1,nu1,nu2⟩:=kK NC f1
  obtain ⟨cl,e2,cl1,cl2⟩:=kK NC f2
  obtain ⟨ty,e3⟩:=mG Nz f3
  obtain ⟨na,e5⟩:=mG Nz f5
  obtain ⟨ca,e4,hca⟩:=zH Nz f4
  obtain ⟨va,e6,hva,hvz⟩:=rW (by simp only [List.length_take,List.length_drop]; omega) zf6 f6
  obtain ⟨aA,Ws,aC,e7,_,a3,a4,a7,a5⟩:=iW NG Ed ae LC zf7 f7
  obtain ⟨ws,hws,hok⟩:=jP (f:=VA.cells) (Pr:=fun a=>a.Ok w []∧a.v.s.length<8796093022000) Ws (fun W hW=>by
    obtain ⟨hl,m,y,hy,hyz⟩:=a4 W hW
    exact rW hl hyz hy)
  subst hws
  rw [List.length_map] at e7 a3 a7
  have e56:reachBytes=140737488351232:=ae
  obtain ⟨bA,src,bC,e8,b2,b3,b5⟩:=oH zf8 f8
  obtain ⟨eff,e9,heff⟩:=yG NK NI Ju (by simp only [List.length_take,List.length_drop]; omega) f9
  refine ⟨⟨op,nu,cl,ty,ca,na,va,ws,aA,aC,src,bA,bC,eff⟩,?_,⟨hva,fun b hb=>(hok b hb).1,a5.rc,a3,b5.rc,by show src.length≤_; omega,⟨⟨op1,op2⟩,⟨nu1,nu2⟩,⟨cl1,cl2⟩,hva.i,fun v hv=>?_,heff⟩⟩,hca,b3,b2,hvz,by show ws.length<_; omega,fun b hb=>(hok b hb).2⟩
  have s0:=dQ (cs) 0 1
  have s1:=dQ (cs) 1 1
  have s2:=dQ (cs) 2 1
  have s3:=dQ (cs) 3 1
  have s4:=dQ (cs) 4 1
  have s5:=dQ (cs) 5 1
  have s6:=dQ (cs) 6 4
  have s7:=dQ (cs) 10 1
  have s8:=dQ (cs) 11 1
  have s9:=dQ (cs) 12 32
  rw [e0] at s0
  rw [e1] at s1
  rw [e2] at s2
  rw [e3] at s3
  rw [e4] at s4
  rw [e5] at s5
  rw [e6] at s6
  rw [e7] at s7
  rw [e8] at s8
  rw [e9] at s9
  have z9:cs.drop (12+32)=[]:=List.drop_of_length_le ag
  rw [z9] at s9
  rw [List.drop_zero] at s0
  · rw [s0,s1,s2,s3,s4,s5,s6,s7,s8,s9]
    simp [EA.cells,VA.cells,Val.cells]
  · obtain ⟨a,ha,rfl⟩:=List.mem_map.1 hv
    exact (hok a ha).1.i
end Go.Proofs.YtepbmdlgdaedpaaGreatDoor
namespace Go.Proofs.YtepbmdlgdaedpaaGreatDoor
open Go.ChangeShapes Go.WideShapes Go.ChangeAt Go.RowKit Go.Dk Go.Deep
theorem JX:Tryz.prog.bytesOf 27=24:=af
theorem sV {H:Type} {enc:TypeId × Value→H} {w:World} {held:Bool} {cs:List Value} {x:DataW H × List MemPlace} {fuel:Nat} (hz:Small Tryz.prog 63 x.1) (h:DataW.trod enc Tryz.prog w 0 (fun _=>true) held fuel 63 cs=some x):∃ (A:Option Addr) (ps:List Piece) (c:Nat),cs=[.slice A ps.length c]∧ps.length≤9223372036854775807∧PcS w [] A ps∧∀ p∈ps,p.2.2.length≤140737488351232:=by
  obtain ⟨A,Ws,c,h1,h2,h3,h4,h7,h5⟩:=iW NQ JM ae JX hz h
  obtain ⟨ps,hps,hok⟩:=jP (f:=fun p:Piece=>[qQ p]) (Pr:=fun p=>(p.2.2.length≤p.2.1∧Rd w [] p.1 p.2.2)∧p.2.2.length≤140737488351232) Ws (fun W hW=>by
    obtain ⟨hl,m,y,hy,hyz⟩:=h4 W hW
    obtain ⟨A,l,c,e1,e2,e3,e4⟩:=oH hyz hy
    exact ⟨(A,c,l),e1,⟨e2,e4.rc⟩,e3⟩)
  subst hps
  rw [List.length_map] at h1 h3
  have e1:(ps.map fun p=>[qQ p]).flatten=ps.map qQ:=ul qQ ps
  rw [e1] at h5
  exact ⟨A,ps,c,h1,h3,⟨h5.rc,fun p hp=>(hok p hp).1⟩,fun p hp=>(hok p hp).2⟩
set_option maxRecDepth 100000 in
theorem uO {H:Type} {enc:TypeId × Value→H} {w:World} {held:Bool} {v:Value} {d:DataW H} {p:List MemPlace} {r:Reach} {b0:Nat} (hv:Value.okWide Tryz.prog w r b0 63 v) (h:DataW.Trod enc Tryz.prog w 0 (fun _=>true) held 63 v d p) (hz:Small Tryz.prog 63 d):∃ (A:Option Addr) (ps:List Piece) (c:Nat),v= .slice A ps.length c∧ps.length≤9223372036854775807∧PcS w [] A ps∧∀ p∈ps,p.2.2.length≤140737488351232:=by
  obtain ⟨fuel,hf⟩:=h
  obtain ⟨A,ps,c,h1,h2⟩:=sV (x:=(d,p)) hz hf
  exact ⟨A,ps,c,lF NQ hv h1,h2⟩
end Go.Proofs.YtepbmdlgdaedpaaGreatDoor
