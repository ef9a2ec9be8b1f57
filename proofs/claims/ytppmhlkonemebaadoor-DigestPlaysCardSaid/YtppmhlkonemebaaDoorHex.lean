/- The walks of hex, written. -/
import Derived.Test.YtppmhlkonemebaaDoorMust
namespace Go.Proofs.YtppmhlkonemebaaDoor
open Go.RowKit Go.Dk
def hexI (c : Int) : Int := if 97 ≤ c then ((c - 97) % 256 + 10) % 256 else (c - 48) % 256
set_option maxRecDepth 100000 in
/-- hex -/
theorem hex_any (w : World) (c : Int) : Calls Tryd.prog 61 #[.int .u8 c] w fun e w' => e = .returned (.int .u8 (hexI c)) ∧ w' = w := by
  by_cases h : 97 ≤ c
  · go_enter Tryd.func61, Tryd.ntmps61
    go_wp2
    go_ret
    unfold hexI
    rw [if_pos h]
    exact ⟨rfl, rfl⟩
  · have h' : c < 97 := by omega
    go_enter Tryd.func61, Tryd.ntmps61
    go_wp2
    go_ret
    unfold hexI
    rw [if_neg (by omega)]
    exact ⟨rfl, rfl⟩
/-- the bytes that a text of digits stands for -/
def hexAt (s : ByteArray) (i : Nat) : Int := hexI ((s.data[i]?.getD 0).toNat : Int)
def hexByte (s : ByteArray) (i : Nat) : UInt8 := UInt8.ofNat ((16 * hexAt s (2 * i)) % 256 + hexAt s (2 * i + 1)).toNat
def writtenL (s : ByteArray) : List UInt8 := (List.range 32).map (hexByte s)
theorem run_str_at {o : Oper} {a : Act} {w : World} {x ix : Operand} {s : ByteArray} {kd : IntKind} {k : Int} (ho : o.op = .index 9 x ix) (hx : a.eval x = .string s) (hi : a.eval ix = .int kd k) (j : Nat) (hk : k = j) (h : j < s.size) :
    (execOp a.eval o).run Tryd.prog w = .ok (.value (.int .u8 ((s.data[j]?.getD 0).toNat : Int))) w := by
  subst hk
  have h1 := run_index_string (P := Tryd.prog) w 9 s kd j Tryd.underlying9
  rw [dif_pos (by omega)] at h1
  have h2 : (s[(j : Int).toNat]'(by omega) : UInt8) = s.data[j]?.getD 0 := by
    have hj : j < s.data.size := h
    show s.data[j] = _
    rw [Array.getElem?_eq_getElem hj]
    rfl
  rw [h2] at h1
  unfold execOp
  simp only [ho, hx, hi, Sem.run_bind, h1, Result.andThen_ok, Sem.run_pure]
theorem hexI_range (c : Int) : 0 ≤ hexI c ∧ hexI c < 256 := by unfold hexI; split <;> omega
theorem hexByte_int (s : ByteArray) (i : Nat) : (16 * hexAt s (2 * i) % 256 + hexAt s (2 * i + 1)) % 256 = ((hexByte s i).toNat : Int) := by
  have h := hexI_range ((s.data[2 * i + 1]?.getD 0).toNat : Int)
  have h2 : ((hexByte s i).toNat : Int) = (((16 * hexAt s (2 * i)) % 256 + hexAt s (2 * i + 1)).toNat : Nat) % 256 := by simp [hexByte]
  rw [h2]
  unfold hexAt at *
  omega
theorem writtenL_length (s : ByteArray) : (writtenL s).length = 32 := by simp [writtenL]
theorem writtenL_at (s : ByteArray) (i : Nat) (h : i < 32) : bAt (writtenL s) i = hexByte s i := by simp [writtenL, bAt, h]

set_option maxRecDepth 100000 in
set_option maxHeartbeats 1000000 in
theorem written_any (w : World) (s : ByteArray) (hs : s.size = 64) : Calls Tryd.prog 16 #[.string s] w fun e w' => e = .returned (.agg (dc (writtenL s)).toArray) ∧ At w [] w' := by
  have hA0 := At.refl w
  have Hs := Lib.hid hs
  go_enter Tryd.func16, Tryd.ntmps16
  go_wp2_with (first
    | (with_reducible refine at_alloc rfl ?_
       refine wpList_plain rfl (fun _ hK => wp_alloc rfl hA0 mu_zero36 (fun b2 w1 hb2 hA1 => hK _ _ ?_)); clear hK hA0
       replace hA1 : At w [(b2, 36, dc (List.replicate 32 0))] w1 := hA1)
    | (with_reducible refine at_alloc rfl ?_
       refine wpList_plain rfl (fun _ hK => wp_alloc rfl hA1 mu_zero36 (fun b3 w2 hb3 hA2 => hK _ _ ?_)); clear hK
       replace hA2 : At w [(b3, 36, dc (List.replicate 32 0)), (b2, 36, dc (List.replicate 32 0))] w2 := hA2))
  obtain ⟨F, HF⟩ : ∃ F, Hid (F = writtenL s) := ⟨_, rfl⟩
  have HFl : Hid (F.length = 32) := Lib.hid (by rw [HF.out, writtenL_length])
  have HFa : ∀ i, i < 32 → Hid (bAt F i = hexByte s i) := fun i h => Lib.hid (by rw [HF.out, writtenL_at s i h])
  have hs1 := hA1.size
  clear hA1
  obtain ⟨Z0, HZ0⟩ : ∃ Z, Hid (Z = dc (List.replicate 32 0)) := ⟨_, rfl⟩
  replace hA2 : At w [(b3, 36, dc (F.take 0 ++ List.replicate (32 - 0) 0)), (b2, 36, Z0)] w2 := by rw [HZ0.out]; exact hA2
  go_loopw [4] (fun p wr => ∃ i : Nat, i ≤ 32 ∧ p = .int .i64 i ∧ At w [(b3, 36, dc (F.take i ++ List.replicate (32 - i) 0)), (b2, 36, Z0)] wr) (fun p _ => 32 - (intOf p).toNat)
  case atStart => exact ⟨0, by omega, rfl, hA2⟩
  case round =>
    clear hA2
    obtain ⟨i, hi, rfl, hAr⟩ := hrel
    by_cases hlt : i < 32
    · have e0 : IntKind.i64.wrap (2 * (i : Int)) = 2 * (i : Int) := IntWalk.i64_in _ (by omega)
      have e1 : IntKind.i64.wrap (2 * (i : Int) + 1) = 2 * (i : Int) + 1 := IntWalk.i64_in _ (by omega)
      have e3 : IntKind.i64.wrap ((i : Int) + 1) = (i : Int) + 1 := IntWalk.i64_in _ (by omega)
      have lt1 : (i : Int) < 32 := by omega
      have lt2 : 2 * (i : Int) < 64 := by omega
      have lt3 : 2 * (i : Int) + 1 < 64 := by omega
      have t0 : (2 * (i : Int)).toNat = 2 * i := by omega
      have t1 : (2 * (i : Int) + 1).toNat = 2 * i + 1 := by omega
      have g0 : (0 : Int) ≤ 2 * (i : Int) := by omega
      have g1 : (0 : Int) ≤ 2 * (i : Int) + 1 := by omega
      go_wp2
      clear e3
      obtain ⟨ca, Hca⟩ : ∃ c, Hid (c = ((s.data[2 * i]?.getD 0).toNat : Int)) := ⟨_, rfl⟩
      obtain ⟨cb, Hcb⟩ : ∃ c, Hid (c = ((s.data[2 * i + 1]?.getD 0).toNat : Int)) := ⟨_, rfl⟩
      have Hb : Hid ((16 * hexI ca % 256 + hexI cb) % 256 = ((hexByte s i).toNat : Int)) := Lib.hid (by rw [← hexByte_int s i, Hca.out, Hcb.out]; rfl)
      have Hput : Hid ((dc (F.take i ++ List.replicate (32 - i) 0)).set i (.int .u8 ((hexByte s i).toNat : Int)) = dc (F.take (i + 1) ++ List.replicate (32 - (i + 1)) 0)) := Lib.hid (by
        have h := fill_put (l := F) (j := i) (by rw [HFl.out]; exact hlt) (32 - (i + 1))
        rw [(HFa i hlt).out, show 32 - (i + 1) + 1 = 32 - i by omega] at h
        exact h)
      have Hlen : Hid ((dc (F.take i ++ List.replicate (32 - i) 0)).length = 32) := Lib.hid (by
        have h := HFl.out
        rw [dc_length, List.length_append, List.length_take, List.length_replicate]; omega)
      haveI : Nonempty { x : World // At w [(b3, 36, dc (F.take i ++ List.replicate (32 - i) 0)), (b2, 36, Z0)] x } := ⟨⟨_, hAr⟩⟩
      refine wp_region_plan 15 [5,12,15] [0,1,2,3,4,7,8,9,10,11,5,6,12,13,14,15] (At w [(b3, 36, dc (F.take i ++ List.replicate (32 - i) 0)), (b2, 36, Z0)]) (by kernel_rfl) (by kernel_rfl) (hAr.drew) ?_
      refine plan_pure rfl rfl (fun K hK => ?_); go_simp; refine hK _ ?_; clear hK K
      refine plan_pure rfl rfl (fun K hK => ?_); go_simp; refine hK _ ?_; clear hK K
      refine plan_pure rfl rfl (fun K hK => ?_); go_simp; refine hK _ ?_; clear hK K
      refine plan_pure rfl rfl (fun K hK => ?_); go_simp; refine hK _ ?_; clear hK K
      refine plan_q rfl rfl rfl (.int .u8 ca) (fun x hx => by rw [Hca.out]; exact run_str_at rfl rfl rfl (2 * i) (by omega) (by rw [Hs.out]; omega)) ?_
      refine plan_pure rfl rfl (fun K hK => ?_); go_simp; refine hK _ ?_; clear hK K
      refine plan_pure rfl rfl (fun K hK => ?_); go_simp; refine hK _ ?_; clear hK K
      refine plan_pure rfl rfl (fun K hK => ?_); go_simp; refine hK _ ?_; clear hK K
      refine plan_pure rfl rfl (fun K hK => ?_); go_simp; refine hK _ ?_; clear hK K
      refine plan_q rfl rfl rfl (.int .u8 cb) (fun x hx => by rw [Hcb.out]; exact run_str_at rfl rfl rfl (2 * i + 1) (by omega) (by rw [Hs.out]; omega)) ?_
      refine plan_l rfl rfl rfl (fun K hK => ?_); go_simp
      with_reducible refine (hex_any _ ca).mono ?_
      rintro e' w' ⟨rfl, rfl⟩
      go_simp
      refine hK _ _ (fun _ => hAr.drew) ?_; clear hK K
      refine plan_pure rfl rfl (fun K hK => ?_); go_simp; refine hK _ ?_; clear hK K
      refine plan_l rfl rfl rfl (fun K hK => ?_); go_simp
      with_reducible refine (hex_any _ cb).mono ?_
      rintro e' w' ⟨rfl, rfl⟩
      go_simp
      refine hK _ _ (fun _ => hAr.drew) ?_; clear hK K
      refine plan_pure rfl rfl (fun K hK => ?_); go_simp; refine hK _ ?_; clear hK K
      refine plan_pure rfl rfl (fun K hK => ?_); go_simp; refine hK _ ?_; clear hK K
      refine plan_l rfl rfl rfl (fun K hK => wp_store1 (off := i) rfl hAr.drew rfl (val_u8' Hb.out) 0 rfl (by rw [Hlen.out]; omega) rfl bk_size5 (fun w5 hA5 => hK _ _ (fun h => absurd h (by decide)) ?_))
      clear hK K
      replace hA5 : At w [(b3, 36, (dc (F.take i ++ List.replicate (32 - i) 0)).set i (.int .u8 ((hexByte s i).toNat : Int))), (b2, 36, Z0)] w5 := hA5
      rw [Hput.out] at hA5
      refine plan_end ?_
      have e3 : IntKind.i64.wrap ((i : Int) + 1) = (i : Int) + 1 := IntWalk.i64_in _ (by omega)
      go_wp2
      go_roundw
      case rel => exact ⟨i + 1, by omega, by go_num, hA5⟩
      case measure => simp [intOf]; omega
    · obtain rfl : i = 32 := by omega
      have Hd : Hid ((dc F).length = 32) := Lib.hid (by rw [dc_length, HFl.out])
      have Htk : Hid (((dc F).drop 0).take 32 = dc F) := Lib.hid (by rw [List.drop_zero, List.take_of_length_le (by rw [Hd.out]; exact Nat.le_refl _)])
      have Hz4 : Hid (splice Z0 0 (dc F) = dc F) := Lib.hid (splice_all' _ _ (by rw [Hd.out, HZ0.out]; rfl))
      have Hz2 : Hid ((Tryd.prog.info? 36).map (·.size) = some (dc F).toArray.size) := Lib.hid (by rw [mu_size36, List.size_toArray, Hd.out])
      have Hz1 : Hid (0 + (dc F).toArray.size ≤ Z0.length) := Lib.hid (by rw [List.size_toArray, Hd.out, HZ0.out]; exact Nat.le_of_eq (by rfl))
      have Hz3 : Hid (∀ v ∈ (dc F).toArray, v.oneCell' = true) := Lib.hid (fun v hv => dc_one _ v (by simpa using hv))
      have hEnd : F.take 32 ++ List.replicate (32 - 32) 0 = F := by rw [List.take_of_length_le (by rw [HFl.out]; exact Nat.le_refl _)]; simp
      rw [hEnd] at hAr
      clear hEnd
      go_wp2_with (first
        | (with_reducible refine at_load rfl ?_
           refine wpList_plain rfl (fun _ hK => wp_loadRow (off := 0) (n := 32) rfl hAr rfl 0 rfl mu_row36 (by rw [Hd.out]; decide) (hK _ _ ?_)); clear hK
           rw [Htk.out])
        | (with_reducible refine at_store rfl ?_
           refine wpList_plain rfl (fun _ hK => wp_storeRow (off := 0) (new := (dc F).toArray) rfl hAr rfl rfl 1 rfl Hz1.out Hz3.out Hz2.out (fun w4 hA4 => hK _ _ ?_)); clear hK
           replace hA4 : At w [(b3, 36, dc F), (b2, 36, splice Z0 0 (dc F))] w4 := hA4
           rw [Hz4.out] at hA4))
      refine bodyPost_ret (results_cell Tryd.results16 hA4 rfl 1 rfl (by rw [Hd.out]; exact mu_row36)) rfl ⟨by rw [HF.out], hA4.clear (fun r hr => ?_)⟩
      simp only [List.mem_cons, List.not_mem_nil, or_false] at hr
      rcases hr with rfl | rfl <;> simp only <;> omega
end Go.Proofs.YtppmhlkonemebaaDoor
