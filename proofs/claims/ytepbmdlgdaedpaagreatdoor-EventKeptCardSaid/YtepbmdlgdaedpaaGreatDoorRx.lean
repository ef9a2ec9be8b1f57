/- Functions as values that hold what they caught; a slice held against nil. Plain lemmas over the model; no program. -/
import Derived.Test.YtepbmdlgdaedpaaGreatDoorBook0
/- Functions as values that hold what they caught; a slice held against nil. Plain lemmas over the model; no program. -/
namespace Go.Dk
open Go Go.RowKit
section
variable {P:Program} {Q:Exit→Act→World→Prop} {w:World} {n:Nat} {F:List (Nat × Value)} {a:Act} {o:Oper} {d:Nat} {K:Act→World→Prop} {x y:Operand} {t t' e:TypeId} {v:Value}
end
section
variable {P:Program} {w w0:World} {n:Nat} {F:List (Nat × Value)} {a:Act} {L:List Row} {R S:List Seg}
theorem yS {fn:Func} {t u:Tmp} {ty:TypeId} (h:fn.results = #[.cell u ty,.tmp t]) {tmps:Array Value} (hA:At w0 L w) {g:Nat} (hx:tmps.getD u undef= .pointer (some ⟨g,0,none⟩))
    (k:Nat) {te:TypeId} {cs:List Value} (hk:L[k]? = some (g,te,cs)) (hr:isRow P ty cs.length=true):(results fn tmps).run P w= .ok (.tuple #[.agg cs.toArray,tmps.getD t undef]) w:=by
  obtain ⟨d,hu,hd,hi⟩:=kT hr
  have h1:=run_loadVar_mid (P:=P) w g 0 ty cs d (by simpa using hA.range hk 0 cs.length) hu hd hi
  have hx':tmps[u]?.getD undef= .pointer (some ⟨g,0,none⟩):=by simpa using hx
  simp [results,h,hx',h1,asAddr]
theorem fH {fn:Func} {RR:Ending→World→Prop} {t u:Tmp} {ty te:TypeId} {g:Nat} {cs:List Value} {T:Seg} {v:Value} (hF:Fr n F a) (hr:fn.results = #[.cell u ty,.tmp t]) (hA:Hq w0 R w) (hl2:look F u=some (.pointer (some ⟨g,0,none⟩))) (hl:look F t=some v)
    (k:Nat) (hk:nth R k=some (row g te cs::T)) (hrow:isRow P ty cs.length=true) (h:RR (.returned (.tuple #[.agg cs.toArray,v])) w):bodyPost P fn RR .ret a w :=
  bodyPost_ret (yS hr (At.start1 (hA.rowAt hk)) (hF.at hl2) 0 rfl hrow) hF.defers (by rw [hF.at hl]; exact h)
def Rw (w0:World) (R:List Seg) (g:Nat) (W:List Value):Prop:=∀ x,Hq w0 R x→g<x.heap.size∧∀ i,i<W.length→x.cell? ⟨g,0+i,none⟩=W[i]?
theorem Rw.mono {g:Nat} {W:List Value} (h:Rw w0 R g W) (hs:R⊆S):Rw w0 S g W:=fun x hx=>h x (hx.sub hs)
theorem Rw.ofRow {i g:Nat} {t:TypeId} {cs:List Value} {T:Seg} (hi:nth R i=some (row g t cs::T)):Rw w0 R g cs:=fun x hx =>
  ⟨kF (hx.rowAt hi),fun j hj=>by rw [cell_of_row x g (0+j) _ t (0,0) (hx.rowAt hi),List.getElem?_toArray,Nat.zero_add]⟩
end
end Go.Dk
