/- What is laid is taken back: plain facts of bytes. -/
import Derived.Test.YthphfbohhbkdgaaOps0
namespace Go.Proofs.Ythphfbohhbkdgaa
open Go.RowKit Go.Dk

theorem flatten32 (ds : List (List UInt8)) (h : ∀ d ∈ ds, d.length = 32) : ds.flatten.length = 32 * ds.length := by
  induction ds with
  | nil => rfl
  | cons d ds ih => rw [List.flatten_cons, List.length_append, h d (List.mem_cons_self ..), ih (fun e he => h e (List.mem_cons_of_mem _ he)), List.length_cons]; omega
theorem tflat_size (ss : List (List UInt8)) : (tflat ss).length ≤ 2 * (ss.map (fun p : List UInt8 => p.length + 1)).sum := by
  induction ss with
  | nil => exact Nat.le_refl _
  | cons s ss ih =>
    have e3 : (tflat (s :: ss)).length = 2 + s.length + (tflat ss).length := by simp [tflat, be_length]; omega
    rw [e3, List.map_cons, List.sum_cons]; omega
theorem lays_size (o : OpX) (h32 : ∀ d ∈ o.v.ds, d.length = 32) : vSz o.v ≤ 2 * opCost o ∧ (laysL o).length ≤ 2 * opCost o := by
  have h1 := tflat_size o.v.ss
  have h2 := flatten32 o.v.ds h32
  have h3 : opCost o = 100 + o.v.p.length + o.v.s.length + 32 * o.v.ds.length + (o.ps.map (fun p : Piece => p.2.2.length + 1)).sum + (o.v.ss.map (fun p : List UInt8 => p.length + 1)).sum := rfl
  have h4 : vSz o.v = 8 + o.v.p.length + o.v.s.length + o.v.ds.flatten.length + (tflat o.v.ss).length := rfl
  refine ⟨by omega, ?_⟩
  unfold laysL
  by_cases k1 : o.kind = 1
  · rw [if_pos k1, be_length]; omega
  rw [if_neg k1]
  by_cases k2 : o.kind = 2
  · rw [if_pos k2, be_length]; omega
  rw [if_neg k2]
  by_cases k3 : o.kind = 3
  · rw [if_pos k3, be_length]; omega
  rw [if_neg k3]
  by_cases k4 : o.kind = 4
  · rw [if_pos k4, be_length]; omega
  rw [if_neg k4]
  by_cases k5 : o.kind = 5
  · rw [if_pos k5, List.length_cons, List.length_nil]; omega
  rw [if_neg k5]
  by_cases k6 : o.kind = 6
  · rw [if_pos k6]; omega
  rw [if_neg k6]
  by_cases k7 : o.kind = 7
  · rw [if_pos k7]; omega
  rw [if_neg k7]
  by_cases k8 : o.kind = 8
  · rw [if_pos k8, textB]
    split
    · first | exact Nat.zero_le _ | (rw [List.length_append, be_length]; omega)
    · first | exact Nat.zero_le _ | (rw [List.length_append, be_length]; omega)
  rw [if_neg k8]
  by_cases k9 : o.kind = 9
  · rw [if_pos k9, bytesB]
    split
    · first | exact Nat.zero_le _ | (rw [List.length_append, be_length]; omega)
    · first | exact Nat.zero_le _ | (rw [List.length_append, be_length]; omega)
  rw [if_neg k9]
  by_cases k10 : o.kind = 10
  · rw [if_pos k10, textsB]
    split
    · first | exact Nat.zero_le _ | (rw [List.length_append, be_length]; omega)
    · first | exact Nat.zero_le _ | (rw [List.length_append, be_length]; omega)
  rw [if_neg k10]
  exact Nat.zero_le _
theorem sum_take_le {α : Type} (f : α → Nat) (l : List α) (i : Nat) : ((l.take i).map f).sum ≤ (l.map f).sum := by
  have h : l.map f = (l.take i).map f ++ (l.drop i).map f := by rw [← List.map_append, List.take_append_drop]
  rw [h, List.sum_append]; omega
theorem sum_100 (os : List OpX) : 100 * os.length ≤ (os.map opCost).sum := by
  induction os with
  | nil => exact Nat.le_refl _
  | cons o os ih =>
    have h3 : 100 ≤ opCost o := by unfold opCost; omega
    rw [List.length_cons, List.map_cons, List.sum_cons]; omega
end Go.Proofs.Ythphfbohhbkdgaa
