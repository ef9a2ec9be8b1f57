/- The walks of the reference's byteAt, numbers. -/
import Derived.Test.YtpomngkcfbnjoaaDoorDigest
import Derived.Test.YtpomngkcfbnjoaaDoorRing
namespace Go.Proofs.YtpomngkcfbnjoaaDoor
open Go.RowKit Go.Dk

theorem nums_zero : zeroIs Tryd.prog 132 (.agg (wc (List.replicate 72 0)).toArray) := by unfold zeroIs; kernel_rfl
theorem nums_row : isRow Tryd.prog 132 72 = true := by kernel_rfl
theorem nums_size : (Tryd.prog.info? 132).map (·.size) = some 72 := by kernel_rfl
def nums : List Nat := ks ++ init8
theorem nums_length : nums.length = 72 := by rfl
theorem build_nums (w : World) : (Instr.build 132 ((nums.zipIdx.map fun p => (p.2, Value.int .u32 (p.1 : Int))).toArray)).run Tryd.prog w = .ok (.agg (wc nums).toArray) w := by kernel_rfl

set_option maxRecDepth 100000 in
set_option maxHeartbeats 1000000 in
theorem numbers_any (w : World) : Calls Tryd.prog 79 #[] w fun e w' => e = .returned (.agg (wc nums).toArray) ∧ At w [] w' := by
  have hA0 := At.refl w
  have Hz1 : Hid (0 + (wc nums).toArray.size ≤ (wc (List.replicate 72 0)).length) := Lib.hid (by rw [List.size_toArray, wc_length, nums_length]; decide)
  have Hz2 : Hid ((Tryd.prog.info? 132).map (·.size) = some (wc nums).toArray.size) := Lib.hid (by rw [nums_size, List.size_toArray, wc_length, nums_length])
  have Hz3 : Hid (∀ v ∈ (wc nums).toArray, v.oneCell' = true) := Lib.hid (fun v hv => by
    simp only [wc, List.mem_toArray, List.mem_map] at hv
    obtain ⟨_, _, rfl⟩ := hv
    rfl)
  have Hz4 : Hid (splice (wc (List.replicate 72 0)) 0 (wc nums) = wc nums) := Lib.hid (splice_all' _ _ (by rw [wc_length, wc_length, nums_length]; rfl))
  have Hz5 : Hid ((wc nums).length = 72) := Lib.hid (by rw [wc_length, nums_length])
  go_enter Tryd.func79, Tryd.ntmps79
  go_wp2_with (first
    | (with_reducible refine at_alloc rfl ?_
       refine wpList_plain rfl (fun _ hK => wp_alloc rfl hA0 nums_zero (fun b1 w1 hb1 hA1 => hK _ _ ?_)); clear hK
       replace hA1 : At w [(b1, 132, wc (List.replicate 72 0))] w1 := hA1)
    | (with_reducible refine at_build rfl ?_
       refine wpList_plain rfl (fun _ hK => wp_build rfl (v := .agg (wc nums).toArray) (by exact build_nums _) (hK _ _ ?_)); clear hK)
    | (with_reducible refine at_store rfl ?_
       refine wpList_plain rfl (fun _ hK => wp_storeRow (off := 0) (new := (wc nums).toArray) rfl hA1 rfl rfl 0 rfl Hz1.out Hz3.out Hz2.out (fun w2 hA2 => hK _ _ ?_)); clear hK
       replace hA2 : At w [(b1, 132, splice (wc (List.replicate 72 0)) 0 (wc nums))] w2 := hA2
       rw [Hz4.out] at hA2))
  refine bodyPost_ret (results_cell Tryd.results79 hA2 rfl 0 rfl (by rw [Hz5.out]; exact nums_row)) rfl ⟨rfl, hA2.clear (fun r hr => ?_)⟩
  simp only [List.mem_cons, List.not_mem_nil, or_false] at hr
  subst hr
  exact hb1

theorem u8_of (n : Nat) : ((n : Int) % 256) = ((UInt8.ofNat n).toNat : Int) := (u8_ofNat n).symm
set_option maxRecDepth 100000 in
set_option maxHeartbeats 1000000 in
theorem byteAt_any (w : World) (A : Option Addr) (l : List UInt8) (c n i whole : Nat) (hn : n = l.length) (hB : Bts w A l) (hl : n < 281474976710656) (hw : whole = wholeN n) (hi : i < whole) :
    Calls Tryd.prog 80 #[.slice A n c, .int .i64 i, .int .i64 whole] w fun e w' => e = .returned (.int .u8 ((bAt (padded l) i).toNat : Int)) ∧ w = w' := by
  have Hn := Lib.hid hn
  have Hw := Lib.hid hw
  have hwb : whole ≤ n + 72 ∧ n + 9 ≤ whole := by rw [hw]; unfold wholeN; omega
  clear hn hw
  by_cases c1 : i < n
  · have hne : l ≠ [] := fun e => by have h := Hn.out; rw [e] at h; simp at h; omega
    obtain ⟨b, o, rfl, hb, hcell⟩ := hB hne
    have Hc := Lib.hid (hcell i (by have := Hn.out; omega))
    have Hv : Hid (bAt (padded l) i = bAt l i) := Lib.hid (padded_in l i (by have := Hn.out; omega))
    clear hcell
    have l1 : (i : Int) < n := by omega
    rw [Hv.out]
    go_enter Tryd.func80, Tryd.ntmps80
    go_wp2_with (first
      | (with_reducible refine at_load rfl ?_
         refine wpList_plain rfl (fun _ hK => wp_loadOld (v := .int .u8 ((bAt l i).toNat : Int)) rfl rfl Hc.out (by kernel_rfl) (hK _ _ ?_)); clear hK))
    go_ret
    exact ⟨rfl, rfl⟩
  · by_cases c2 : i = n
    · have Hv : Hid (bAt (padded l) i = 128) := Lib.hid (by rw [c2, Hn.out]; exact padded_one l)
      rw [Hv.out]
      subst c2
      go_enter Tryd.func80, Tryd.ntmps80
      go_wp2
      go_ret
      exact ⟨rfl, rfl⟩
    · by_cases c3 : whole ≤ i + 8
      · have Hv : Hid (bAt (padded l) i = UInt8.ofNat (8 * n / 256 ^ (whole - 1 - i))) := Lib.hid (by
          have h1 := Hn.out
          have h2 := Hw.out
          rw [padded_len l i (by omega) (by rw [← h1, ← h2]; omega) (by rw [← h1, ← h2]; omega), ← h1, ← h2, Nat.mod_eq_of_lt (by omega)])
        rw [Hv.out]
        have l1 : (n : Int) < i := by omega
        have l1' : (n : Int) ≤ i := by omega
        have l1'' : ¬ ((i : Int) = n) := by omega
        have l2 : (whole : Int) - 8 ≤ i := by omega
        have e1 : IntKind.i64.wrap ((whole : Int) - 8) = (whole : Int) - 8 := IntWalk.i64_in _ (by omega)
        have e2 : IntKind.i64.wrap (8 * (n : Int)) = 8 * (n : Int) := IntWalk.i64_in _ (by omega)
        have e3 : IntKind.i64.wrap ((whole : Int) - 1) = (whole : Int) - 1 := IntWalk.i64_in _ (by omega)
        have e4 : IntKind.i64.wrap ((whole : Int) - 1 - i) = (whole : Int) - 1 - i := IntWalk.i64_in _ (by omega)
        have e5 : IntKind.i64.wrap (8 * ((whole : Int) - 1 - i)) = 8 * ((whole : Int) - 1 - i) := IntWalk.i64_in _ (by omega)
        have e6 : IntKind.u64.wrap (8 * ((whole : Int) - 1 - i)) = 8 * ((whole : Int) - 1 - i) := by rw [IntKind.wrap_u64]; omega
        have e7 : IntKind.u64.wrap (8 * (n : Int)) = 8 * (n : Int) := by rw [IntKind.wrap_u64]; omega
        have t2 : (8 * ((whole : Int) - 1 - i)).toNat = 8 * (whole - 1 - i) := by omega
        have l3 : 0 ≤ 8 * ((whole : Int) - 1 - i) ∧ 8 * ((whole : Int) - 1 - i) < 64 := by omega
        go_enter Tryd.func80, Tryd.ntmps80
        go_wp2
        go_ret
        refine ⟨ret_int ?_, rfl⟩
        rw [← u8_of]
        have h := shr256 (8 * n) (whole - 1 - i) (8 * (whole - 1 - i)) rfl
        rw [← h]
        congr 1
      · have Hv : Hid (bAt (padded l) i = 0) := Lib.hid (by
          have h1 := Hn.out
          have h2 := Hw.out
          exact padded_zero l i (by omega) (by rw [← h1, ← h2]; omega))
        rw [Hv.out]
        have l1 : (n : Int) < i := by omega
        have l1' : (n : Int) ≤ i := by omega
        have l1'' : ¬ ((i : Int) = n) := by omega
        have l2 : (i : Int) < (whole : Int) - 8 := by omega
        have e1 : IntKind.i64.wrap ((whole : Int) - 8) = (whole : Int) - 8 := IntWalk.i64_in _ (by omega)
        go_enter Tryd.func80, Tryd.ntmps80
        go_wp2
        go_ret
        exact ⟨rfl, rfl⟩
end Go.Proofs.YtpomngkcfbnjoaaDoor
