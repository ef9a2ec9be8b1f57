/- The walks of digest.Sum, hex, written. -/
import Derived.Test.YtppmhlkonemebaaDoorSum
import Derived.Test.YtppmhlkonemebaaDoorMust
namespace Go.Proofs.YtppmhlkonemebaaDoor
open Go.RowKit Go.Dk

theorem sha_length (m : List UInt8) : (sha m).length = 32 := by
  rw [sha_eq, flat_length, blocks_length _ _ _ rfl]

/-- the address, if there is one, lies in memory -/
def In (w : World) (A : Option Addr) : Prop := ∀ ad, A = some ad → ad.block < w.heap.size
theorem In.size {w w' : World} {A : Option Addr} (h : In w A) (hs : w.heap.size ≤ w'.heap.size) : In w' A := fun ad he => Nat.lt_of_lt_of_le (h ad he) hs
theorem In.off {w : World} {A : Option Addr} {g : Nat} (h : In w A) (hg : w.heap.size ≤ g) : Off A g := fun ad he => by have := h ad he; omega

set_option maxRecDepth 100000 in
set_option maxHeartbeats 400000 in
/-- digest.Sum -/
theorem digest_any (w : World) (A : Option Addr) (l : List UInt8) (c n : Nat) (hn : n = l.length) (hc : n ≤ c) (hB : Bts w A l) (hI : In w A) (hl : l.length < 140737488355328) (hT : Tab w) :
    Calls Tryd.prog 21 #[.slice A n c] w fun e w' => e = .returned (.agg (dc (sha l)).toArray) ∧ At w [] w' := by
  subst hn
  have hA0 := At.refl w
  have hpos : 0 < w.heap.size := hT.lt
  have Hd : Hid ((dc (sha l)).length = 32) := Lib.hid (by rw [dc_length, sha_length])
  have Hz4 : Hid (splice (dc (List.replicate 32 0)) 0 (dc (sha l)) = dc (sha l)) := Lib.hid (splice_all' _ _ (by rw [Hd.out]; rfl))
  have Hz2 : Hid ((Tryd.prog.info? 36).map (·.size) = some (dc (sha l)).toArray.size) := Lib.hid (by rw [size36, List.size_toArray, Hd.out])
  have Hz1 : Hid (0 + (dc (sha l)).toArray.size ≤ (dc (List.replicate 32 0)).length) := Lib.hid (by rw [List.size_toArray, Hd.out]; exact Nat.le_of_eq (by rfl))
  have Hz3 : Hid (∀ v ∈ (dc (sha l)).toArray, v.oneCell' = true) := Lib.hid (fun v hv => dc_one _ v (by simpa using hv))
  go_enter Tryd.func21, Tryd.ntmps21
  go_wp2_with (first
    | (with_reducible refine at_alloc rfl ?_
       refine wpList_plain rfl (fun _ hK => wp_alloc rfl hA0 zero36 (fun b2 w1 hb2 hA1 => hK _ _ ?_)); clear hK
       replace hA1 : At w [(b2, 36, dc (List.replicate 32 0))] w1 := hA1)
    | (go_at_call 13
       with_reducible refine (new_any w1).mono ?_
       rintro e' w2 ⟨b3, cs, rfl, hb3, hH, hc2⟩
       have hA2 : At w [(b3, 87, cs), (b2, 36, dc (List.replicate 32 0))] w2 := hA1.thenNew hc2 (by intro r hr; simp only [List.mem_cons, List.not_mem_nil, or_false] at hr; subst hr; exact hb3)
       have hs1 := hA1.size
       have q2 : b2 < b3 := by have := hA1.lt (k := 0) rfl; omega
       have hn2 : ∀ r ∈ [((b3, 87, cs) : Row), (b2, 36, dc (List.replicate 32 0))], w.heap.size ≤ r.1 := by
         intro r hr; simp only [List.mem_cons, List.not_mem_nil, or_false] at hr; rcases hr with h | h <;> subst h <;> simp only <;> omega
       clear hc2)
    | (go_at_call 14
       go_loud (with_reducible refine (write_any w2 b3 [] cs hH (hA2.row (k := 0) rfl) A l c (hB.fresh hA2 hn2) hc (hI.off (by omega)) (by simpa using Nat.lt_trans hl (by decide)) (hT.at_ hA2 (by simp; omega)) (by omega)).mono ?_
                rintro e' w3 ⟨rfl, cs', hH', hc3⟩
                have hA3 : At w [(b3, 87, cs'), (b2, 36, dc (List.replicate 32 0))] w3 := hA2.then1 (k := 0) rfl hc3
                clear hc3))
    | (go_at_call 15
       go_loud (with_reducible refine (sum_any w3 b3 ([] ++ l) cs' hH' (hA3.row (k := 0) rfl) (by rw [List.nil_append]; omega) (hT.at_ hA3 (by simp; omega)) (by omega)).mono ?_
                rintro e' w4 ⟨rfl, hc4⟩
                have hA4 : At w [(b3, 87, cs'), (b2, 36, dc (List.replicate 32 0))] w4 := hA3.then0 hc4
                rw [List.nil_append]
                clear hc4))
    | (with_reducible refine at_store rfl ?_
       refine wpList_plain rfl (fun _ hK => wp_storeRow (off := 0) (new := (dc (sha l)).toArray) rfl hA4 rfl rfl 1 rfl Hz1.out Hz3.out Hz2.out (fun w5 hA5 => hK _ _ ?_)); clear hK
       replace hA5 : At w [(b3, 87, cs'), (b2, 36, splice (dc (List.replicate 32 0)) 0 (dc (sha l)))] w5 := hA5
       rw [Hz4.out] at hA5))
  refine bodyPost_ret (results_cell Tryd.results21 hA5 rfl 1 rfl (by rw [Hd.out]; exact row36)) rfl ⟨rfl, hA5.clear (fun r hr => ?_)⟩
  simp only [List.mem_cons, List.not_mem_nil, or_false] at hr
  rcases hr with rfl | rfl <;> simp only <;> omega
end Go.Proofs.YtppmhlkonemebaaDoor
