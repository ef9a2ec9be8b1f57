/- Texts that belong together, one behind the other. -/
import Derived.Test.YtepbmdlgdaedpaaGreatDoorOctetS
import Derived.Test.YtepbmdlgdaedpaaGreatDoorEv8
import Derived.Test.YtepbmdlgdaedpaaGreatDoorEv
import Derived.Test.YtepbmdlgdaedpaaGreatDoorHc
import Derived.Test.YtepbmdlgdaedpaaGreatDoorEv9
import Derived.Test.YtepbmdlgdaedpaaGreatDoorOpenR
import Derived.Test.YtepbmdlgdaedpaaGreatDoorOctetH
import Derived.Test.YtepbmdlgdaedpaaGreatDoorEv6
import Derived.Test.YtepbmdlgdaedpaaGreatDoorEvW
import Derived.Test.YtepbmdlgdaedpaaGreatDoorMore
namespace Go.Proofs.YtepbmdlgdaedpaaGreatDoor
open Go.RowKit Go.Dk
theorem jQ {ds:List (List UInt8)} (h:∀ d∈ds,d.length=32):(dO ds).length=ds.length*32:=by
  have h1:=tC (z:=32) (Ws:=ds.map dc) (fun V hV=>by obtain ⟨u,hu,rfl⟩:=List.mem_map.1 hV; rw [aQ]; exact h u hu)
  rwa [List.length_map] at h1
end Go.Proofs.YtepbmdlgdaedpaaGreatDoor
namespace Go.Proofs.YtepbmdlgdaedpaaGreatDoor
open Go.RowKit Go.Dk
theorem zo:gX Tryz.prog 29 32 32:=jP (z:= .agg (dc (List.replicate 32 0)).toArray) af af
end Go.Proofs.YtepbmdlgdaedpaaGreatDoor
namespace Go.Proofs.YtepbmdlgdaedpaaGreatDoor
open Go.RowKit Go.Dk
abbrev mkS:List UInt8:=[109,97,114,107]
abbrev zT:VA:=⟨⟨-77,0,[],[]⟩,none,0⟩
def MOk (w0:World) (M:Seg) (a:VA):Prop:=a.sC=a.v.s.length+80∧Rc w0 [M] a.sA (cel cS (a.v.s++List.replicate 80 mkS))∧a.v.s.length≤50000∧a.v.In
structure WE (w0:World) (gS gA gB:Nat) (M:Seg) (u:EA):Prop where
  vA:u.v.sA=some ⟨gS,0,none⟩
  vC:u.v.sC=u.v.v.s.length+80
  aA:u.aA=some ⟨gA,0,none⟩
  aC:u.aC=u.args.length+80
  bA:u.bA=some ⟨gB,0,none⟩
  bC:u.bC=u.src.length+80
  m:∀ a∈u.args,MOk w0 M a
  nS:u.v.v.s.length≤50000
  nA:u.args.length≤50000
  nB:u.src.length≤140737488351232
  i:u.ev.In
abbrev sgS (g:Nat) (u:EA):Seg:=[row g 9 (cel cS (u.v.v.s++List.replicate 80 mkS))]
abbrev sgA (g:Nat) (u:EA):Seg:=[row g 25 (cel VA.cells (u.args++List.replicate 80 zT))]
abbrev sgB (g:Nat) (u:EA):Seg:=[row g 5 (dc (u.src++List.replicate 80 219))]
theorem uG {α:Type} {C:α→List Value} {w0:World} {R:List Seg} {A:Option Addr} {l m:List α} (h:Rc w0 R A (cel C (l++m))):Rc w0 R A (cel C l):=by
  have:=h.take (cel C l).length
  rwa [jv,List.take_left' rfl] at this
theorem MOk.ok {w0:World} {M:Seg} {a:VA} (h:MOk w0 M a):a.Ok w0 [M]:=⟨by rw [xg]; exact uG h.2.1,by have:=h.2.2.1; omega,h.2.2.2⟩
theorem WE.rS {w0:World} {gS gA gB:Nat} {M:Seg} {u:EA} (h:WE w0 gS gA gB M u):Rc w0 [sgS gS u] u.v.sA (cel cS (u.v.v.s++List.replicate 80 mkS)):=by rw [h.vA]; exact Rc.ofRow (i:=0) (off:=0) rfl (by rw [List.drop_zero]; exact List.take_length ..)
theorem WE.rA {w0:World} {gS gA gB:Nat} {M:Seg} {u:EA} (h:WE w0 gS gA gB M u):Rc w0 [sgA gA u] u.aA (cel VA.cells (u.args++List.replicate 80 zT)):=by rw [h.aA]; exact Rc.ofRow (i:=0) (off:=0) rfl (by rw [List.drop_zero]; exact List.take_length ..)
theorem WE.rB {w0:World} {gS gA gB:Nat} {M:Seg} {u:EA} (h:WE w0 gS gA gB M u):Rd w0 [sgB gB u] u.bA (u.src++List.replicate 80 219):=by rw [h.bA]; exact Rc.ofRow (i:=0) (off:=0) rfl (by rw [List.drop_zero]; exact List.take_length ..)
abbrev WE.sg (gS gA gB:Nat) (M:Seg) (u:EA):List Seg:=[sgS gS u,sgA gA u,sgB gB u,M]
theorem WE.ok {w0:World} {gS gA gB:Nat} {M:Seg} {u:EA} (h:WE w0 gS gA gB M u):u.Ok w0 (WE.sg gS gA gB M u):=by
  have hm:∀ {X:Seg},X∈WE.sg gS gA gB M u→[X]⊆WE.sg gS gA gB M u:=fun hX=>List.cons_subset.2 ⟨hX,List.nil_subset _⟩
  have h1:=h.nS
  have h2:=h.nA
  have h3:=h.nB
  refine ⟨⟨?_,ag,h.i.2.2.2.1⟩,fun a ha=>(h.m a ha).ok.mono (hm (by simp)),(uG h.rA).mono (hm (by simp)),ag,?_,ag,h.i⟩
  · rw [xg]; exact (uG h.rS).mono (hm (by simp))
  · have:=(Rc.take h.rB u.src.length).mono (hm (by simp:sgB gB u∈WE.sg gS gA gB M u))
    rwa [show (dc (u.src++List.replicate 80 219)).take u.src.length=dc u.src by rw [gm]; exact List.take_left' (aQ _)] at this
end Go.Proofs.YtepbmdlgdaedpaaGreatDoor
