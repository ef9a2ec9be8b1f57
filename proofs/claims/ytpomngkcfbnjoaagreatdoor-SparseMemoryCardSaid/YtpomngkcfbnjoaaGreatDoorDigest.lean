/- Texts that belong together, one behind the other. -/
import Derived.Test.YtpomngkcfbnjoaaGreatDoorOpenS
import Derived.Laws.MakeOwn
import Derived.Deep.AppendSrc
import Derived.Laws.IdiomStrings
import Derived.Test.YtpomngkcfbnjoaaGreatDoorHash
import Derived.Test.YtpomngkcfbnjoaaGreatDoorRows
import Derived.Laws.BitsAllLaws
import Derived.Test.YtpomngkcfbnjoaaGreatDoorSum
namespace Go.Dk
open Go Go.RowKit
def jV (P:Program) (e:TypeId):Prop:=(P.info? e).map (fun i=>(i.zero,i.size,i.bytes))=some (some (.int .u8 0),1,1)
theorem qB {P:Program} {e:TypeId} (h:jV P e):∃ i,P.info? e=some i∧i.zero=some (.int .u8 0)∧i.size=1∧i.bytes=1:=by
  unfold jV at h
  cases hi:P.info? e with
  | none=>simp [hi] at h
  | some i =>
    rw [hi] at h
    simp only [Option.map_some,Option.some.injEq,Prod.mk.injEq] at h
    exact ⟨i,rfl,h.1,h.2.1,h.2.2⟩
theorem uO (n:Nat):(madeCells (Value.int .u8 0).cells n).toList=dc (List.replicate n 0):=by
  simp [madeCells,Value.cells,dc,Nat.mod_one]
  apply List.ext_getElem <;> simp
theorem Bts.fresh {w0 w:World} {L:List Row} {A:Option Addr} {l:List UInt8} (h:Bts w0 A l) (hA:At w0 L w) (hn:∀ r∈L,w0.heap.size≤r.1):Bts w A l:=fun hne=>by
  obtain ⟨b,o,rfl,hb,hc⟩:=h hne
  have hs:=hA.size
  refine ⟨b,o,rfl,ag,fun i hi=>(hA.old hb (fun hm=>?_) _ _).trans (hc i hi)⟩
  obtain ⟨r,hr,rfl⟩:=List.mem_map.1 hm
  have:=hn r hr
  omega
section
variable {P:Program} {ops:Array Oper} {Q:Exit→Act→World→Prop} {a:Act} {w0 w:World} {L:List Row} {rest:List Oper} {o:Oper}
theorem Ob {K:Act→World→Prop} {t e:TypeId} {x y:Operand} (ho:o.op= .makeSlice t x y) (hA:At w0 L w) (hu:P.underlying t=some (.slice e)) (hb:jV P e)
    {kl kc:IntKind} (n:Nat) (hx:a.eval x= .int kl (n:Int)) (hy:a.eval y= .int kc (n:Int)) (hn:n≤140737488355328)
    (h:∀ g w',w.heap.size≤g→At w0 ((g,e,dc (List.replicate n 0))::L) w'→K (a.put o.dst (.slice (some ⟨g,0,none⟩) n n)) w'):o.wp P a w K Q:=by
  obtain ⟨i,hi,hz,hs,hbb⟩:=qB hb
  have hr:=run_make (P:=P) w t e i _ hu hi hz kl kc n n ag ag (by rw [hbb]; omega) ag
  have h1:=hA.alloc (madeCells (Value.int .u8 0).cells ((n:Int).toNat*i.size)) e
  rw [hs,Nat.mul_one,Int.toNat_natCast] at h1 hr
  rw [uO] at h1
  unfold Oper.wp execOp
  simp only [ho,hx,hy,Sem.run_bind,Sem.run_pure,hr,Result.andThen_ok]
  exact h _ _ (TG _) h1
theorem yL {K:Act→World→Prop} {t:TypeId} {n:Nat} {ps:Array (Nat × Operand)} (ho:o.op= .buildSlice t n ps) (hA:At w0 L w) {e:TypeId} {cells:Array Value}
    (hr:(Instr.buildSlice t n (ps.map fun (i,x)=>(i,a.eval x))).run P w= .ok (.slice (some ⟨w.heap.size,0,none⟩) n n) (w.alloc (.cells cells e)))
    (h:∀ g w',w.heap.size≤g→At w0 ((g,e,cells.toList)::L) w'→K (a.put o.dst (.slice (some ⟨g,0,none⟩) n n)) w'):o.wp P a w K Q:=by
  have h1:=h w.heap.size (w.alloc (.cells cells e)) (TG _) (hA.alloc _ _)
  unfold Oper.wp execOp
  simp only [ho,Sem.run_bind,hr,Result.andThen_ok,Sem.run_pure]
  exact h1
theorem QR {K:Act→World→Prop} {t:TypeId} {x:Operand} (ho:o.op= .buildSlice t 1 #[(0,x)]) (hA:At w0 L w) {v:Value} (hx:a.eval x=v) {e:TypeId} {cells:Array Value}
    (hr:(Instr.buildSlice t 1 #[(0,v)]).run P w= .ok (.slice (some ⟨w.heap.size,0,none⟩) 1 1) (w.alloc (.cells cells e)))
    (h:∀ g w',w.heap.size≤g→At w0 ((g,e,cells.toList)::L) w'→K (a.put o.dst (.slice (some ⟨g,0,none⟩) 1 1)) w'):o.wp P a w K Q:=by
  subst hx
  exact yL ho hA (by simpa using hr) h
end
end Go.Dk
namespace Go.Proofs.YtpomngkcfbnjoaaGreatDoor
open Go.RowKit Go.Dk
theorem nV:(Tryz.prog.info? 5).map (·.size)=some 1:=af
theorem NQ:jV Tryz.prog 5:=by unfold jV; kernel_rfl
end Go.Proofs.YtpomngkcfbnjoaaGreatDoor
namespace Go.Proofs.YtpomngkcfbnjoaaGreatDoor
open Go.RowKit Go.Dk
theorem IR:bV Tryz.prog 25 (.agg (dc (List.replicate 32 0)).toArray):=by unfold bV; kernel_rfl
theorem CY:isRow Tryz.prog 25 32=true:=af
theorem IU:(Tryz.prog.info? 25).map (·.size)=some 32:=af
end Go.Proofs.YtpomngkcfbnjoaaGreatDoor
namespace Go.Proofs.YtpomngkcfbnjoaaGreatDoor
open Go.RowKit Go.Dk
theorem dH (m:List UInt8):(sha m).length=32:=by
  rw [Rh,flat_length,bF _ _ _ rfl]
def In (w:World) (A:Option Addr):Prop:=∀ ad,A=some ad→ad.block<w.heap.size
theorem In.size {w w':World} {A:Option Addr} (h:In w A) (hs:w.heap.size≤w'.heap.size):In w' A:=fun ad he=>Nat.lt_of_lt_of_le (h ad he) hs
theorem In.off {w:World} {A:Option Addr} {g:Nat} (h:In w A) (hg:w.heap.size≤g):Off A g:=fun ad he=>by have:=h ad he; omega
end Go.Proofs.YtpomngkcfbnjoaaGreatDoor
