/- The walks of begin, New, Write, Sum, Fork: a hasher. -/
import Derived.Test.YtepbmdlgdaedpaaGreatDoorRows
import Derived.Test.YtepbmdlgdaedpaaGreatDoorHash
import Derived.Test.YtepbmdlgdaedpaaGreatDoorRegion
/- The walks of begin, New, Write, Sum, Fork: a hasher. -/
namespace Go.Proofs.YtepbmdlgdaedpaaGreatDoor
open Go.RowKit Go.Dk
theorem NE:bT Tryz.prog 242 (.agg (wc (List.replicate 8 0)).toArray):=by unfold bT; kernel_rfl
theorem Nq:isRow Tryz.prog 242 8=true:=af
theorem NQ:(Tryz.prog.info? 242).map (·.size)=some 8:=af
theorem Pm:isRow Tryz.prog 246 73=true:=af
theorem Az (w:World):(Instr.build 242 #[(0,.int .u32 1779033703),(1,.int .u32 3144134277),(2,.int .u32 1013904242),(3,.int .u32 2773480762),(4,.int .u32 1359893119),(5,.int .u32 2600822924),(6,.int .u32 528734635),(7,.int .u32 1541459225)]).run Tryz.prog w= .ok (.agg (wc init8).toArray) w:=af
theorem FZ (w:World):(Instr.build 246 #[(0,.agg (wc init8).toArray)]).run Tryz.prog w= .ok (.agg (hcells init8 (List.replicate 64 0) 0).toArray) w:=af
theorem AX (D:List Nat):∀ v∈(wc D).toArray,v.oneCell'=true:=by
  intro v hv
  simp only [wc,List.mem_toArray,List.mem_map] at hv
  obtain ⟨b,_,rfl⟩:=hv
  rfl
set_option maxRecDepth 100000 in
set_option maxHeartbeats 400000 in
theorem F6 (w:World):Calls Tryz.prog 196 #[] w fun e w'=>e= .returned (.agg (wc init8).toArray)∧At w [] w':=by
  have hA0:=At.refl w
  go_enter Tryz.func196,Tryz.ntmps196
  go_wp2_with (first
    | (with_reducible refine kw rfl ?_
       refine wpList_plain rfl (fun _ hK=>jy rfl hA0 NE (fun n w1 hn hA1=>hK _ _ ?_)); clear hK
       replace hA1:At w [(n,242,wc (List.replicate 8 0))] w1:=hA1)
    | (with_reducible refine uP rfl ?_
       refine wpList_plain rfl (fun _ hK=>wp_build rfl (Az _) (hK _ _ ?_)); clear hK)
    | (with_reducible refine gZ rfl ?_
       refine wpList_plain rfl (fun _ hK=>jl (off:=0) (new:=(wc init8).toArray) rfl hA1 O O 0 O ae (AX _) (by rw [NQ]; rfl) (fun w2 hA2=>hK _ _ ?_)); clear hK
       replace hA2:At w [(n,242,wc init8)] w2:=hA2))
  refine bodyPost_ret (jE Tryz.results196 hA2 O 0 O Nq) rfl ⟨rfl,hA2.clear (fun r hr=>?_)⟩
  simp only [List.mem_cons,List.not_mem_nil,or_false] at hr
  subst hr
  exact hn
def Qm (w:World) (m:List UInt8) (e:Ending) (w':World):Prop:=∃ n cs,e= .returned (.pointer (some ⟨n,0,none⟩))∧w.heap.size≤n∧HS m cs∧At w [(n,246,cs)] w'
set_option maxRecDepth 100000 in
set_option maxHeartbeats 400000 in
theorem new_any (w:World):Calls Tryz.prog 162 #[] w (Qm w []):=by
  have hA0:=At.refl w
  go_enter Tryz.func162,Tryz.ntmps162
  go_wp2_with (first
    | (go_at_call 196
       refine (F6 _).mono ?_
       rintro e w1 ⟨rfl,hc⟩
       have hA1:=hA0.then0 hc
       clear hc)
    | (with_reducible refine uP rfl ?_
       refine wpList_plain rfl (fun _ hK=>wp_build rfl (FZ _) (hK _ _ ?_)); clear hK)
    | (with_reducible refine JQ rfl ?_
       refine wpList_plain rfl (fun _ hK=>xh (v:= .agg (hcells init8 (List.replicate 64 0) 0).toArray) rfl hA1 O (fun n w2 hn hA2=>hK _ _ ?_)); clear hK
       replace hA2:At w [(n,246,hcells init8 (List.replicate 64 0) 0)] w2:=hA2))
  go_ret
  have h1:=hA1.size
  exact ⟨n,_,rfl,ag,HS.new,hA2⟩
end Go.Proofs.YtepbmdlgdaedpaaGreatDoor
