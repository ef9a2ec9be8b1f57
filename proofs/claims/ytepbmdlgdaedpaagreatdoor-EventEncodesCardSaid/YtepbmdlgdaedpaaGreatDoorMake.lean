/- Slices of bytes that are made: make, append onto nil. Plain lemmas over the model; no program. -/
import Derived.Test.YtepbmdlgdaedpaaGreatDoorBytes
import Derived.Laws.MakeOwn
import Derived.Deep.AppendSrc
import Derived.Laws.IdiomStrings
/- Slices of bytes that are made: make, append onto nil. Plain lemmas over the model; no program. -/
namespace Go.Dk
open Go Go.RowKit
def kz (P:Program) (e:TypeId):Prop:=(P.info? e).map (fun i=>(i.zero,i.size,i.bytes))=some (some (.int .u8 0),1,1)
theorem pO {P:Program} {e:TypeId} (h:kz P e):∃ i,P.info? e=some i∧i.zero=some (.int .u8 0)∧i.size=1∧i.bytes=1:=by
  unfold kz at h
  cases hi:P.info? e with
  | none=>simp [hi] at h
  | some i =>
    rw [hi] at h
    simp only [Option.map_some,Option.some.injEq,Prod.mk.injEq] at h
    exact ⟨i,rfl,h.1,h.2.1,h.2.2⟩
section
variable {P:Program} {ops:Array Oper} {Q:Exit→Act→World→Prop} {a:Act} {w0 w:World} {L:List Row} {rest:List Oper} {o:Oper}
theorem mX {t t' e:TypeId} {x:Operand} (ho:o.op= .convert t t' x) (hu:P.underlying t=some (.slice e)) (he:P.underlying e=some (.int .u8)) (hd:P.underlying t'=some .string)
    {A:Option Addr} {c n:Nat} {l:List UInt8} (hx:a.eval x= .slice A n c) (hn:n=l.length) (hne:l≠[]) (hr:Bts w A l):(execOp a.eval o).run P w= .ok (.value (.string ⟨l.toArray⟩)) w:=by
  subst hn
  obtain ⟨b,o',rfl,hb,hc⟩:=hr hne
  have h:=run_convert_bytes_back (P:=P) w t t' e ⟨b,o',none⟩ c l hu he hd (fun j hj=>by rw [Addr.add_mid,hc j hj]; simp [bAt,hj])
  unfold execOp
  simp only [ho,hx,Sem.run_bind,h,Result.andThen_ok,Sem.run_pure]
theorem Ag {K:Act→World→Prop} {t:TypeId} {n:Nat} {ps:Array (Nat × Operand)} (ho:o.op= .buildSlice t n ps) (hA:At w0 L w) {e:TypeId} {cells:Array Value}
    (hr:(Instr.buildSlice t n (ps.map fun (i,x)=>(i,a.eval x))).run P w= .ok (.slice (some ⟨w.heap.size,0,none⟩) n n) (w.alloc (.cells cells e)))
    (h:∀ g w',w.heap.size≤g→At w0 ((g,e,cells.toList)::L) w'→K (a.put o.dst (.slice (some ⟨g,0,none⟩) n n)) w'):o.wp P a w K Q:=by
  have h1:=h w.heap.size (w.alloc (.cells cells e)) (JH _) (hA.alloc _ _)
  unfold Oper.wp execOp
  simp only [ho,Sem.run_bind,hr,Result.andThen_ok,Sem.run_pure]
  exact h1
theorem Gz {K:Act→World→Prop} {t:TypeId} {x:Operand} (ho:o.op= .buildSlice t 1 #[(0,x)]) (hA:At w0 L w) {v:Value} (hx:a.eval x=v) {e:TypeId} {cells:Array Value}
    (hr:(Instr.buildSlice t 1 #[(0,v)]).run P w= .ok (.slice (some ⟨w.heap.size,0,none⟩) 1 1) (w.alloc (.cells cells e)))
    (h:∀ g w',w.heap.size≤g→At w0 ((g,e,cells.toList)::L) w'→K (a.put o.dst (.slice (some ⟨g,0,none⟩) 1 1)) w'):o.wp P a w K Q:=by
  subst hx
  exact Ag ho hA (by simpa using hr) h
end
end Go.Dk
