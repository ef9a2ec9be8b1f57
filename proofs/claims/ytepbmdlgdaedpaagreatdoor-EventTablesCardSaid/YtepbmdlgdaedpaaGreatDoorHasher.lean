/- The walks of begin, New, Write, Sum, Fork: a hasher. -/
import Derived.Test.YtepbmdlgdaedpaaGreatDoorRows
import Derived.Test.YtepbmdlgdaedpaaGreatDoorHash
import Derived.Test.YtepbmdlgdaedpaaGreatDoorRegion
/- The walks of begin, New, Write, Sum, Fork: a hasher. -/
namespace Go.Proofs.YtepbmdlgdaedpaaGreatDoor
open Go.RowKit Go.Dk
theorem Nb:bQ Tryz.prog 242 (.agg (wc (List.replicate 8 0)).toArray):=by unfold bQ; kernel_rfl
theorem MN:isRow Tryz.prog 242 8=true:=af
theorem Nv:(Tryz.prog.info? 242).map (·.size)=some 8:=af
theorem OE:isRow Tryz.prog 246 73=true:=af
theorem zZ (w:World):(Instr.build 242 #[(0,.int .u32 1779033703),(1,.int .u32 3144134277),(2,.int .u32 1013904242),(3,.int .u32 2773480762),(4,.int .u32 1359893119),(5,.int .u32 2600822924),(6,.int .u32 528734635),(7,.int .u32 1541459225)]).run Tryz.prog w= .ok (.agg (wc init8).toArray) w:=af
theorem FM (w:World):(Instr.build 246 #[(0,.agg (wc init8).toArray)]).run Tryz.prog w= .ok (.agg (hcells init8 (List.replicate 64 0) 0).toArray) w:=af
theorem Ak (D:List Nat):∀ v∈(wc D).toArray,v.oneCell'=true:=by
  intro v hv
  simp only [wc,List.mem_toArray,List.mem_map] at hv
  obtain ⟨b,_,rfl⟩:=hv
  rfl
set_option maxRecDepth 100000 in
set_option maxHeartbeats 400000 in
theorem FO (w:World):Calls Tryz.prog 196 #[] w fun e w'=>e= .returned (.agg (wc init8).toArray)∧At w [] w':=by
  have hA0:=At.refl w
  go_enter Tryz.func196,Tryz.ntmps196
  go_wp2_with (first
    | (with_reducible refine jP rfl ?_
       refine wpList_plain rfl (fun _ hK=>iK rfl hA0 Nb (fun n w1 hn hA1=>hK _ _ ?_)); clear hK
       replace hA1:At w [(n,242,wc (List.replicate 8 0))] w1:=hA1)
    | (with_reducible refine uw rfl ?_
       refine wpList_plain rfl (fun _ hK=>wp_build rfl (zZ _) (hK _ _ ?_)); clear hK)
    | (with_reducible refine gJ rfl ?_
       refine wpList_plain rfl (fun _ hK=>ja (off:=0) (new:=(wc init8).toArray) rfl hA1 O O 0 O ae (Ak _) (by rw [Nv]; rfl) (fun w2 hA2=>hK _ _ ?_)); clear hK
       replace hA2:At w [(n,242,wc init8)] w2:=hA2))
  refine bodyPost_ret (jo Tryz.results196 hA2 O 0 O MN) rfl ⟨rfl,hA2.clear (fun r hr=>?_)⟩
  simp only [List.mem_cons,List.not_mem_nil,or_false] at hr
  subst hr
  exact hn
def PN (w:World) (m:List UInt8) (e:Ending) (w':World):Prop:=∃ n cs,e= .returned (.pointer (some ⟨n,0,none⟩))∧w.heap.size≤n∧HS m cs∧At w [(n,246,cs)] w'
set_option maxRecDepth 100000 in
set_option maxHeartbeats 400000 in
theorem new_any (w:World):Calls Tryz.prog 162 #[] w (PN w []):=by
  have hA0:=At.refl w
  go_enter Tryz.func162,Tryz.ntmps162
  go_wp2_with (first
    | (go_at_call 196
       refine (FO _).mono ?_
       rintro e w1 ⟨rfl,hc⟩
       have hA1:=hA0.then0 hc
       clear hc)
    | (with_reducible refine uw rfl ?_
       refine wpList_plain rfl (fun _ hK=>wp_build rfl (FM _) (hK _ _ ?_)); clear hK)
    | (with_reducible refine Ju rfl ?_
       refine wpList_plain rfl (fun _ hK=>wG (v:= .agg (hcells init8 (List.replicate 64 0) 0).toArray) rfl hA1 O (fun n w2 hn hA2=>hK _ _ ?_)); clear hK
       replace hA2:At w [(n,246,hcells init8 (List.replicate 64 0) 0)] w2:=hA2))
  go_ret
  have h1:=hA1.size
  exact ⟨n,_,rfl,ag,HS.new,hA2⟩
end Go.Proofs.YtepbmdlgdaedpaaGreatDoor
