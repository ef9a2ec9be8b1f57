/- OctetReads: the law 'OctetReads' returns true, whatever the input. -/
import Derived.Test.YthphfbohhbkdgaaRows
import Derived.OpenShut
import Derived.SizedLaws
import Derived.ShutString
import Derived.Test.YthphfbohhbkdgaaLawReads
import Derived.Test.YthphfbohhbkdgaaOpenPc
namespace Go.Proofs.Ythphfbohhbkdgaa.octetReads
open Go.ChangeShapes Go.WideShapes Go.ChangeAt Go.RowKit Go.Dk

theorem own : ownKnob Try.prog.godebug = none := by kernel_rfl
theorem laidOut : laidOutB Try.prog = true := by kernel_rfl

set_option maxRecDepth 100000 in
theorem lifted (os : Os) (started : os.Started) (H : Type) (enc : TypeId × Value → H) :
    ReturnsInHanded {} Try.checked os 6 .any (Rows.octetReadsSpec.pre6 enc Try.prog Try.f6 Rows.octetReadsRow.domain false) (Rows.octetReadsSpec.post enc Try.prog Try.f6 false true false false) := by
  refine returnsInHanded_of_change_sized (C := Try.checked) own started (by kernel_rfl) Try.func6
    (ChangeSpec.witness6 (enc := enc) (C := Try.checked) false ⟨#[], #[.slice none 0 0, .slice none 0 0], []⟩ 8 (by kernel_rfl) (by kernel_rfl) (by kernel_rfl) (by kernel_rfl)) ?_
  intro W base args ds gs before hval0 hW hcnd hsz0 _
  have hval : ∀ (j : Nat) t v, Try.f6.params[j]? = some t → args[j]? = some v → Value.okWide Try.prog W .any base t v := hval0
  have hsz : (DataW.weightsEach Try.prog (Try.f6.params.toList ++ Rows.octetReadsSpec.plain.varTypes Try.prog) (ds ++ gs)).all (· ≤ reachBytes) = true := hsz0
  have hW' := hW
  obtain ⟨p, q, hA0, hV, rfl, hfz, hnd⟩ := hW
  have hA : DataW.TrodAll enc Try.prog W 0 (fun _ => true) true Try.f6.params.toList args.toList ds p := hA0
  rw [Try.params6] at hA hval hsz
  obtain ⟨v0, vs0, d0, ds0, p0, q0, hargs, rfl, rfl, h0, r0⟩ := trodAll_cons hA
  obtain ⟨v1, vs1, d1, ds1, p1, q1, hargs1, rfl, rfl, h1, r1⟩ := trodAll_cons r0
  subst hargs1
  obtain ⟨rfl, rfl, rfl⟩ := trodAll_nil r1
  obtain rfl : args = #[v0, v1] := by cases args; simp_all
  obtain ⟨rfl, rfl⟩ := trodVars_none hV
  have k0 := h0
  have lt0 : ∀ x ∈ p0, x.block < W.heap.size := by obtain ⟨m, hm⟩ := k0; exact DataW.trod_lt m _ _ _ hm
  have k1 := h1
  have lt1 : ∀ x ∈ p1, x.block < W.heap.size := by obtain ⟨m, hm⟩ := k1; exact DataW.trod_lt m _ _ _ hm
  have hv0 := hval 0 _ _ rfl rfl
  obtain ⟨bA, bC, l, rfl, hbC, hB, hform⟩ := open_byte_slice Try.underlying35 Try.underlying5 oo_c5 hv0 h0
  have hv1 := hval 1 _ _ rfl rfl
  obtain ⟨sA, os, sC, rfl, hOs, hS, hn⟩ := open_ops hv1 h1
  have hsm : bC < 140737488351300 := byte_slice_small hsz (j := 0) rfl rfl Try.underlying35 (by kernel_rfl) hform
  clear hA0 hval0
  refine (law_reads W bA l bC hbC (Rd.old hB) (by omega) sA sC os (fun o ho => (hOs o ho).1.1) hS hn).mono fun e W' ⟨he, hat⟩ => ?_
  have bel : Below W.heap.size W W' := hat.below (fun _ h => by cases h)
  subst he
  exact ⟨_, rfl, _, _, _, [], _, [], hW', trodAll_mk1 (shut_bool Try.underlying4 _), (trodAll_cons_mk (Below.trod laidOut (by kernel_rfl) (of_decide_eq_true (by kernel_rfl)) k0 bel lt0) (trodAll_cons_mk (Below.trod laidOut (by kernel_rfl) (of_decide_eq_true (by kernel_rfl)) k1 bel lt1) trodAll_mk0)), rfl, bel.frame _, fun h => by cases h⟩

theorem over : Rows.octetReadsRow.holds Try.pinned (OpenSpec.ofChange Rows.octetReadsSpec) :=
  OpenClaim.holds_of_wide 6 Try.f6 rfl rfl rfl rfl rfl rfl rfl ⟨rfl, rfl, rfl, rfl, rfl⟩ rfl rfl rfl rfl rfl (by kernel_rfl) Try.func6 (by kernel_rfl)
    (of_decide_eq_true (by kernel_rfl)) (by unfold Func.isWrapper; first | (rw [if_pos (by decide +kernel)]; kernel_rfl) | (rw [if_neg (by decide +kernel)]; exact ⟨rfl, rfl⟩))
    (fun os started H enc _ => lifted os started H enc)

theorem proved : Rows.OctetReadsSaid := over
end Go.Proofs.Ythphfbohhbkdgaa.octetReads
