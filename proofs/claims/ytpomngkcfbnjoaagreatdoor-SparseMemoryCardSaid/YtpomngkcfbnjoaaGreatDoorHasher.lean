/- The walks of begin, New, Write, Sum, Fork: a hasher. -/
import Derived.Test.YtpomngkcfbnjoaaGreatDoorRows
import Derived.Test.YtpomngkcfbnjoaaGreatDoorHash
/- The walks of begin, New, Write, Sum, Fork: a hasher. -/
namespace Go.Proofs.YtpomngkcfbnjoaaGreatDoor
open Go.RowKit Go.Dk
theorem QO:bV Tryz.prog 154 (.agg (wc (List.replicate 8 0)).toArray):=by unfold bV; kernel_rfl
theorem QB:isRow Tryz.prog 154 8=true:=af
theorem Q9:(Tryz.prog.info? 154).map (·.size)=some 8:=af
theorem SL:isRow Tryz.prog 158 73=true:=af
theorem DY (w:World):(Instr.build 154 #[(0,.int .u32 1779033703),(1,.int .u32 3144134277),(2,.int .u32 1013904242),(3,.int .u32 2773480762),(4,.int .u32 1359893119),(5,.int .u32 2600822924),(6,.int .u32 528734635),(7,.int .u32 1541459225)]).run Tryz.prog w= .ok (.agg (wc init8).toArray) w:=af
theorem Ji (w:World):(Instr.build 158 #[(0,.agg (wc init8).toArray)]).run Tryz.prog w= .ok (.agg (hcells init8 (List.replicate 64 0) 0).toArray) w:=af
theorem Eh (D:List Nat):∀ v∈(wc D).toArray,v.oneCell'=true:=by
  intro v hv
  simp only [wc,List.mem_toArray,List.mem_map] at hv
  obtain ⟨b,_,rfl⟩:=hv
  rfl
set_option maxRecDepth 100000 in
set_option maxHeartbeats 400000 in
theorem Jk (w:World):Calls Tryz.prog 98 #[] w fun e w'=>e= .returned (.agg (wc init8).toArray)∧At w [] w':=by
  have hA0:=At.refl w
  go_enter Tryz.func98,Tryz.ntmps98
  go_wp2_with (first
    | (with_reducible refine lh rfl ?_
       refine wpList_plain rfl (fun _ hK=>ji rfl hA0 QO (fun n w1 hn hA1=>hK _ _ ?_)); clear hK
       replace hA1:At w [(n,154,wc (List.replicate 8 0))] w1:=hA1)
    | (with_reducible refine yg rfl ?_
       refine wpList_plain rfl (fun _ hK=>wp_build rfl (DY _) (hK _ _ ?_)); clear hK)
    | (with_reducible refine iQ rfl ?_
       refine wpList_plain rfl (fun _ hK=>jy (off:=0) (new:=(wc init8).toArray) rfl hA1 O O 0 O ae (Eh _) (by rw [Q9]; rfl) (fun w2 hA2=>hK _ _ ?_)); clear hK
       replace hA2:At w [(n,154,wc init8)] w2:=hA2))
  refine bodyPost_ret (jO Tryz.results98 hA2 O 0 O QB) rfl ⟨rfl,hA2.clear (fun r hr=>?_)⟩
  simp only [List.mem_cons,List.not_mem_nil,or_false] at hr
  subst hr
  exact hn
def Tm (w:World) (m:List UInt8) (e:Ending) (w':World):Prop:=∃ n cs,e= .returned (.pointer (some ⟨n,0,none⟩))∧w.heap.size≤n∧HS m cs∧At w [(n,158,cs)] w'
set_option maxRecDepth 100000 in
set_option maxHeartbeats 400000 in
theorem new_any (w:World):Calls Tryz.prog 92 #[] w (Tm w []):=by
  have hA0:=At.refl w
  go_enter Tryz.func92,Tryz.ntmps92
  go_wp2_with (first
    | (go_at_call 98
       refine (Jk _).mono ?_
       rintro e w1 ⟨rfl,hc⟩
       have hA1:=hA0.then0 hc
       clear hc)
    | (with_reducible refine yg rfl ?_
       refine wpList_plain rfl (fun _ hK=>wp_build rfl (Ji _) (hK _ _ ?_)); clear hK)
    | (with_reducible refine NS rfl ?_
       refine wpList_plain rfl (fun _ hK=>zI (v:= .agg (hcells init8 (List.replicate 64 0) 0).toArray) rfl hA1 O (fun n w2 hn hA2=>hK _ _ ?_)); clear hK
       replace hA2:At w [(n,158,hcells init8 (List.replicate 64 0) 0)] w2:=hA2))
  go_ret
  have h1:=hA1.size
  exact ⟨n,_,rfl,ag,HS.new,hA2⟩
end Go.Proofs.YtpomngkcfbnjoaaGreatDoor
