/- The walks of begin, New, Write, Sum, Fork: a hasher. -/
import Derived.Test.YtpomngkcfbnjoaaDoorRows
import Derived.Test.YtpomngkcfbnjoaaDoorHash
import Derived.Test.YtpomngkcfbnjoaaDoorRegion
namespace Go.Proofs.YtpomngkcfbnjoaaDoor
open Go.RowKit Go.Dk

theorem zero82 : zeroIs Tryd.prog 143 (.agg (wc (List.replicate 8 0)).toArray) := by unfold zeroIs; kernel_rfl
theorem row82 : isRow Tryd.prog 143 8 = true := by kernel_rfl
theorem size82 : (Tryd.prog.info? 143).map (·.size) = some 8 := by kernel_rfl
theorem row87 : isRow Tryd.prog 147 73 = true := by kernel_rfl
theorem build_begin (w : World) : (Instr.build 143 #[(0, .int .u32 1779033703), (1, .int .u32 3144134277), (2, .int .u32 1013904242), (3, .int .u32 2773480762), (4, .int .u32 1359893119), (5, .int .u32 2600822924), (6, .int .u32 528734635), (7, .int .u32 1541459225)]).run Tryd.prog w = .ok (.agg (wc init8).toArray) w := by kernel_rfl
theorem build_new (w : World) : (Instr.build 147 #[(0, .agg (wc init8).toArray)]).run Tryd.prog w = .ok (.agg (hcells init8 (List.replicate 64 0) 0).toArray) w := by kernel_rfl
theorem wc_one (D : List Nat) : ∀ v ∈ (wc D).toArray, v.oneCell' = true := by
  intro v hv
  simp only [wc, List.mem_toArray, List.mem_map] at hv
  obtain ⟨b, _, rfl⟩ := hv
  rfl

set_option maxRecDepth 100000 in
set_option maxHeartbeats 400000 in
theorem begin_any (w : World) : Calls Tryd.prog 90 #[] w fun e w' => e = .returned (.agg (wc init8).toArray) ∧ At w [] w' := by
  have hA0 := At.refl w
  go_enter Tryd.func90, Tryd.ntmps90
  go_wp2_with (first
    | (with_reducible refine at_alloc rfl ?_
       refine wpList_plain rfl (fun _ hK => wp_alloc rfl hA0 zero82 (fun n w1 hn hA1 => hK _ _ ?_)); clear hK
       replace hA1 : At w [(n, 143, wc (List.replicate 8 0))] w1 := hA1)
    | (with_reducible refine at_build rfl ?_
       refine wpList_plain rfl (fun _ hK => wp_build rfl (build_begin _) (hK _ _ ?_)); clear hK)
    | (with_reducible refine at_store rfl ?_
       refine wpList_plain rfl (fun _ hK => wp_storeRow (off := 0) (new := (wc init8).toArray) rfl hA1 rfl rfl 0 rfl (by decide) (wc_one _) (by rw [size82]; rfl) (fun w2 hA2 => hK _ _ ?_)); clear hK
       replace hA2 : At w [(n, 143, wc init8)] w2 := hA2))
  refine bodyPost_ret (results_cell Tryd.results90 hA2 rfl 0 rfl row82) rfl ⟨rfl, hA2.clear (fun r hr => ?_)⟩
  simp only [List.mem_cons, List.not_mem_nil, or_false] at hr
  subst hr
  exact hn

/-- a new hasher that has taken m -/
def NewH (w : World) (m : List UInt8) (e : Ending) (w' : World) : Prop := ∃ n cs, e = .returned (.pointer (some ⟨n, 0, none⟩)) ∧ w.heap.size ≤ n ∧ HS m cs ∧ At w [(n, 147, cs)] w'

set_option maxRecDepth 100000 in
set_option maxHeartbeats 400000 in
theorem new_any (w : World) : Calls Tryd.prog 61 #[] w (NewH w []) := by
  have hA0 := At.refl w
  go_enter Tryd.func61, Tryd.ntmps61
  go_wp2_with (first
    | (go_at_call 90
       refine (begin_any _).mono ?_
       rintro e w1 ⟨rfl, hc⟩
       have hA1 := hA0.then0 hc
       clear hc)
    | (with_reducible refine at_build rfl ?_
       refine wpList_plain rfl (fun _ hK => wp_build rfl (build_new _) (hK _ _ ?_)); clear hK)
    | (with_reducible refine at_box rfl ?_
       refine wpList_plain rfl (fun _ hK => wp_box (v := .agg (hcells init8 (List.replicate 64 0) 0).toArray) rfl hA1 rfl (fun n w2 hn hA2 => hK _ _ ?_)); clear hK
       replace hA2 : At w [(n, 147, hcells init8 (List.replicate 64 0) 0)] w2 := hA2))
  go_ret
  have h1 := hA1.size
  exact ⟨n, _, rfl, by omega, HS.new, hA2⟩
end Go.Proofs.YtpomngkcfbnjoaaDoor
