/- Texts that belong together, one behind the other. -/
import Derived.Test.YtepbmdlgdaedpaaGreatDoorOpenSz
namespace Go.Proofs.YtepbmdlgdaedpaaGreatDoor
open Go.ChangeShapes Go.WideShapes Go.ChangeAt Go.RowKit Go.Dk Go.Deep
theorem EZ:Tryz.prog.bytesOf 29=32:=af
end Go.Proofs.YtepbmdlgdaedpaaGreatDoor
namespace Go.Proofs.YtepbmdlgdaedpaaGreatDoor
open Go.ChangeShapes Go.WideShapes Go.ChangeAt Go.RowKit Go.Dk Go.Deep
theorem ul {H:Type} {enc:TypeId × Value→H} {w:World} {held:Bool} {cs:List Value} {x:DataW H × List MemPlace} {fuel:Nat} (hz:Small Tryz.prog 23 x.1) (h:DataW.trod enc Tryz.prog w 0 (fun _=>true) held fuel 23 cs=some x):∃ (A:Option Addr) (l:List (List UInt8)) (c:Nat),cs=[.slice A l.length c]∧l.length<8796093022000∧Rc w [] A (l.map ak)∧l.length≤c:=by
  obtain ⟨A,Ws,c,h1,h2,h3,h4,h7,h5⟩:=lm Ia Gm ae Gn hz h
  obtain ⟨l,hl,_⟩:=oz (f:=fun s=>[ak s]) (Pr:=fun _=>True) Ws (fun W hW=>by
    obtain ⟨hl,m,y,hy,_⟩:=h4 W hW
    obtain ⟨s,hs⟩:=yD H7 hy
    exact ⟨s,hs,trivial⟩)
  subst hl
  rw [List.length_map] at h1 h2 h3 h7
  rw [flat_one] at h5
  exact ⟨A,l,c,h1,C9 h7,h5.rc,h2⟩
set_option maxRecDepth 100000 in
theorem uJ {H:Type} {enc:TypeId × Value→H} {w:World} {held:Bool} {v:Value} {d:DataW H} {p:List MemPlace} {r:Reach} {b0:Nat} (hv:Value.okWide Tryz.prog w r b0 23 v) (h:DataW.Trod enc Tryz.prog w 0 (fun _=>true) held 23 v d p) (hz:Small Tryz.prog 23 d):∃ (A:Option Addr) (l:List (List UInt8)) (c:Nat),v= .slice A l.length c∧l.length<8796093022000∧Rc w [] A (l.map ak)∧l.length≤c:=by
  obtain ⟨fuel,hf⟩:=h
  obtain ⟨A,l,c,h1,h2⟩:=ul (x:=(d,p)) hz hf
  exact ⟨A,l,c,jI Ia hv h1,h2⟩
theorem uo {H:Type} {enc:TypeId × Value→H} {w:World} {held:Bool} {cs:List Value} {x:DataW H × List MemPlace} {fuel:Nat} (hz:Small Tryz.prog 59 x.1) (h:DataW.trod enc Tryz.prog w 0 (fun _=>true) held fuel 59 cs=some x):∃ (A:Option Addr) (ds:List (List UInt8)) (c:Nat),cs=[.slice A ds.length c]∧ds.length*32≤140737488351232∧Rc w [] A (dO ds)∧(∀ d∈ds,d.length=32)∧ds.length≤c:=by
  obtain ⟨A,Ws,c,h1,h2,h3,h4,h7,h5⟩:=lm Ij E8 ae EZ hz h
  obtain ⟨ds,hds,hok⟩:=oz (f:=dc) (Pr:=fun d=>d.length=32) Ws (fun W hW=>by
    obtain ⟨hl,m,y,hy,_⟩:=h4 W hW
    obtain ⟨D,e1,e2⟩:=l7 Ip Ih Gq hl hy
    exact ⟨D,e1,e2⟩)
  subst hds
  rw [List.length_map] at h1 h2 h3 h7
  exact ⟨A,ds,c,h1,h7,h5.rc,hok,h2⟩
set_option maxRecDepth 100000 in
theorem uM {H:Type} {enc:TypeId × Value→H} {w:World} {held:Bool} {v:Value} {d:DataW H} {p:List MemPlace} {r:Reach} {b0:Nat} (hv:Value.okWide Tryz.prog w r b0 59 v) (h:DataW.Trod enc Tryz.prog w 0 (fun _=>true) held 59 v d p) (hz:Small Tryz.prog 59 d):∃ (A:Option Addr) (ds:List (List UInt8)) (c:Nat),v= .slice A ds.length c∧ds.length*32≤140737488351232∧Rc w [] A (dO ds)∧(∀ d∈ds,d.length=32)∧ds.length≤c:=by
  obtain ⟨fuel,hf⟩:=h
  obtain ⟨A,ds,c,h1,h2⟩:=uo (x:=(d,p)) hz hf
  exact ⟨A,ds,c,jI Ij hv h1,h2⟩
end Go.Proofs.YtepbmdlgdaedpaaGreatDoor
