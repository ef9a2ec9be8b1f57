/- The walks of docketbook's Same, Intact and Roomy over bytes. -/
import Derived.Test.YtppmhlkonemebaaDoorMake
import Derived.Test.YtppmhlkonemebaaDoorRegion
import Derived.Test.YtppmhlkonemebaaDoorRows
namespace Go.Proofs.YtppmhlkonemebaaDoor
open Go.RowKit Go.Dk

theorem bk_size5 : (Tryd.prog.info? 5).map (·.size) = some 1 := by kernel_rfl
theorem bk_no5 : notRow Tryd.prog 5 = true := by kernel_rfl
theorem bk_byte5 : byteInfo Tryd.prog 5 := by unfold byteInfo; kernel_rfl

set_option maxRecDepth 100000 in
set_option maxHeartbeats 400000 in
/-- Same, of the same bytes -/
theorem same_any (w : World) (X Y : Option Addr) (l : List UInt8) (ca cb n : Nat) (hn : n = l.length) (hX : Bts w X l) (hY : Bts w Y l) (hl : l.length < 140737488355328) :
    Calls Tryd.prog 65 #[.slice X n ca, .slice Y n cb] w fun e w' => e = .returned (.bool true) ∧ At w [] w' := by
  have hA0 := At.refl w
  have Hn := Lib.hid hn
  have hnb : n < 140737488355328 := by omega
  clear hn hl
  go_enter Tryd.func65, Tryd.ntmps65
  go_wp2
  go_loopw [5] (fun p wr => ∃ i : Nat, i ≤ n ∧ p = .int .i64 i ∧ At w [] wr) (fun p _ => n - (intOf p).toNat)
  case atStart => exact ⟨0, by omega, rfl, hA0⟩
  case round =>
    clear hA0
    obtain ⟨i, hi, rfl, hAr⟩ := hrel
    by_cases hlt : i < n
    · obtain ⟨b1, o1, rfl, hb1, hc1⟩ := hX (fun e => by have h := Hn.out; rw [e] at h; simp at h; omega)
      obtain ⟨b2, o2, rfl, hb2, hc2⟩ := hY (fun e => by have h := Hn.out; rw [e] at h; simp at h; omega)
      have Hc1 := Lib.hid (hc1 i (by have := Hn.out; omega))
      have Hc2 := Lib.hid (hc2 i (by have := Hn.out; omega))
      have e1 : IntKind.i64.wrap ((i : Int) + 1) = (i : Int) + 1 := IntWalk.i64_in _ (by omega)
      have lt1 : (i : Int) < n := by omega
      clear hc1 hc2 hX hY
      go_wp2
      haveI : Nonempty { x : World // At w [] x } := ⟨⟨_, hAr⟩⟩
      refine wp_region_plan 8 [8] [0,1,2,3,4,5,6,7,8] (At w []) (by kernel_rfl) (by kernel_rfl) (hAr.drew) ?_
      refine plan_pure rfl rfl (fun K hK => ?_); go_simp; refine hK _ ?_; clear hK K
      refine plan_pure rfl rfl (fun K hK => ?_); go_simp; refine hK _ ?_; clear hK K
      refine plan_pure rfl rfl (fun K hK => ?_); go_simp; refine hK _ ?_; clear hK K
      refine plan_q rfl rfl rfl _ (fun x hx => run_load_cell (v := .int .u8 (bAt l i).toNat) rfl rfl ((hx.old hb1 (by simp) _ _).trans Hc1.out) bk_no5) ?_
      refine plan_pure rfl rfl (fun K hK => ?_); go_simp; refine hK _ ?_; clear hK K
      refine plan_pure rfl rfl (fun K hK => ?_); go_simp; refine hK _ ?_; clear hK K
      refine plan_pure rfl rfl (fun K hK => ?_); go_simp; refine hK _ ?_; clear hK K
      refine plan_q rfl rfl rfl _ (fun x hx => run_load_cell (v := .int .u8 (bAt l i).toNat) rfl rfl ((hx.old hb2 (by simp) _ _).trans Hc2.out) bk_no5) ?_
      refine plan_l rfl rfl rfl (fun K hK => ?_); go_simp; refine hK _ _ (fun h => absurd h (by decide)) ?_; clear hK K
      refine plan_end ?_
      go_wp2
      go_roundw
      case rel => exact ⟨i + 1, by omega, by go_num, hAr.drew⟩
      case measure => simp [intOf]; omega
    · obtain rfl : i = n := by omega
      go_wp2
      go_ret
      exact ⟨rfl, hAr⟩

/-- what Roomy lays -/
def roomy (l : List UInt8) (v : UInt8) : List UInt8 := l ++ List.replicate 80 v
theorem roomy_length (l : List UInt8) (v : UInt8) : (roomy l v).length = l.length + 80 := by simp [roomy]
theorem roomy_take (l : List UInt8) (v : UInt8) : (roomy l v).take l.length = l := by simp [roomy]
theorem roomy_at {l : List UInt8} {v : UInt8} {i : Nat} (h : l.length ≤ i) (h2 : i < l.length + 80) : bAt (roomy l v) i = v := by
  unfold roomy bAt
  rw [List.getElem?_append_right h, List.getElem?_replicate, if_pos (by omega)]
  rfl

set_option maxRecDepth 100000 in
set_option maxHeartbeats 400000 in
/-- Intact, where nothing was written -/
theorem intact_any (w : World) (X Y : Option Addr) (l : List UInt8) (v : UInt8) (ca cb n nf : Nat) (hn : n = l.length) (hnf : nf = n + 80) (hca : nf ≤ ca) (hX : Bts w X (roomy l v)) (hY : Bts w Y l) (hl : l.length < 140737488355328) (vi : Int) (hvi : vi = (v.toNat : Int)) :
    Calls Tryd.prog 22 #[.slice X nf ca, .slice Y n cb, .int .u8 vi] w fun e w' => e = .returned (.bool true) ∧ At w [] w' := by
  have hA0 := At.refl w
  have hXl : Bts w X l := by have h := hX.take l.length; rwa [roomy_take] at h
  have e1 : IntKind.i64.wrap ((n : Int) + 80) = (n : Int) + 80 := IntWalk.i64_in _ (by omega)
  have e2 : (nf : Int) = (n : Int) + 80 := by omega
  have Hnf := Lib.hid hnf
  have Hn := Lib.hid hn
  have hnb : n < 140737488355328 := by omega
  have hnb2 : n ≤ nf := by omega
  clear hnf hn
  go_enter Tryd.func22, Tryd.ntmps22
  go_wp2_with (first
    | (with_reducible refine at_slice rfl ?_
       refine wpList_plain rfl (fun _ hK => wp_sliceSl (l := 0) (h := n) rfl Tryd.underlying24 bk_size5 rfl (boundIs_none 0) (boundIs_int _ _ _ _ rfl) (by omega) (by have := Hnf.out; omega) (hK _ _ ?_)); clear hK
       rw [sub_zero, Nat.sub_zero, Nat.sub_zero])
    | (go_at_call 65
       go_loud (with_reducible refine (same_any w X Y l ca cb n Hn.out hXl hY hl).mono ?_
                rintro e' wx ⟨rfl, hAx⟩)))
  clear hXl
  go_loopw [7] (fun p wr => ∃ i : Nat, n ≤ i ∧ i ≤ nf ∧ p = .int .i64 i ∧ At w [] wr) (fun p _ => nf - (intOf p).toNat)
  case atStart => exact ⟨n, by omega, by have := Hnf.out; omega, rfl, hAx⟩
  case round =>
    clear hAx
    obtain ⟨i, hi0, hi, rfl, hAr⟩ := hrel
    by_cases hlt : i < nf
    · have hbnd : i < l.length + 80 := by have := Hnf.out; have := Hn.out; omega
      obtain ⟨b1, o1, rfl, hb1, hc1⟩ := hX (fun e => by have h := roomy_length l v; rw [e] at h; simp at h)
      have Hc1 := Lib.hid (hc1 i (by rw [roomy_length]; omega))
      rw [roomy_at (by have := Hn.out; omega) hbnd, ← hvi] at Hc1
      have e3 : IntKind.i64.wrap ((i : Int) + 1) = (i : Int) + 1 := IntWalk.i64_in _ (by omega)
      have lt1 : (i : Int) < nf := by omega
      have lt2 : (i : Int) < (n : Int) + 80 := by omega
      clear hc1 hX
      go_wp2_with (first
        | (with_reducible refine at_load rfl ?_
           refine wpList_plain rfl (fun _ hK => wp_loadOld (v := .int .u8 vi) rfl rfl ((hAr.old hb1 (by simp) _ _).trans Hc1.out) bk_no5 (hK _ _ ?_)); clear hK))
      go_roundw
      case rel => exact ⟨i + 1, by omega, by omega, by go_num, hAr⟩
      case measure => simp [intOf]; omega
    · obtain rfl : i = nf := by omega
      go_wp2
      go_ret
      exact ⟨rfl, hAr⟩

/-- Roomy: the bytes, and 80 more behind them -/
def Roomed (w : World) (l : List UInt8) (v : UInt8) (e : Ending) (w' : World) : Prop :=
  ∃ g, e = .returned (.slice (some ⟨g, 0, none⟩) (l.length + 80) (l.length + 80)) ∧ w.heap.size ≤ g ∧ At w [(g, 5, dc (roomy l v))] w'

set_option maxRecDepth 100000 in
set_option maxHeartbeats 400000 in
theorem roomy_any (w : World) (X : Option Addr) (l : List UInt8) (v : UInt8) (c n : Nat) (hn : n = l.length) (hX : Bts w X l) (hl : l.length < 140737488355000) (vi : Int) (hvi : vi = (v.toNat : Int)) :
    Calls Tryd.prog 20 #[.slice X n c, .int .u8 vi] w (Roomed w l v) := by
  have hA0 := At.refl w
  have e1 : IntKind.i64.wrap ((n : Int) + 80) = ((n + 80 : Nat) : Int) := by rw [IntWalk.i64_in _ (by omega)]; omega
  obtain ⟨nf, hnf⟩ : ∃ nf, nf = n + 80 := ⟨_, rfl⟩
  rw [← hnf] at e1
  have Hnf := Lib.hid hnf
  have hnn : n ≤ nf := by omega
  have hnl : nf < 140737488355328 := by omega
  have Hn := Lib.hid hn
  clear hnf hn hl
  go_enter Tryd.func20, Tryd.ntmps20
  go_wp2_with (first
    | (with_reducible refine at_make rfl ?_
       go_loud (refine wpList_plain rfl (fun _ hK => wp_make rfl hA0 Tryd.underlying24 bk_byte5 nf rfl rfl (by omega) (fun g w1 hg hA1 => hK _ _ ?_)); clear hK))
    | (with_reducible refine at_bin rfl ?_
       refine wpList_plain rfl (fun _ hK => wp_copy (l := l) (off := 0) rfl hA1 Tryd.underlying24 bk_size5 rfl rfl (by rw [← Hn.out]; exact (Nat.min_eq_left hnn).symm) (hX.fresh hA1 (by intro r hr; cases hr with | head => exact hg | tail _ h => cases h)) 0 rfl (fun _ => rfl) (by rw [dc_length, List.length_replicate]; have := Hn.out; omega) (fun w2 hA2 => hK _ _ ?_)); clear hK))
  obtain ⟨F, HF⟩ : ∃ F, Hid (F = roomy l v) := ⟨_, rfl⟩
  have HFl : Hid (F.length = nf) := Lib.hid (by rw [HF.out, roomy_length, Hnf.out, Hn.out])
  have HFv : ∀ i, n ≤ i → i < nf → bAt F i = v := fun i h1 h2 => by rw [HF.out]; exact roomy_at (by have := Hn.out; omega) (by have := Hn.out; have := Hnf.out; omega)
  have h0 : splice (dc (List.replicate nf 0)) 0 (dc l) = dc (F.take n ++ List.replicate (nf - n) 0) := by
    rw [HF.out, Hn.out, roomy_take, dc_append]
    unfold splice
    rw [dc_length, dc_drop, List.drop_replicate, List.take_zero, List.nil_append, Nat.zero_add]
  replace hA2 : At w [(g, 5, dc (F.take n ++ List.replicate (nf - n) 0))] w2 := by rw [← h0]; exact hA2
  clear h0 hA1 hX e1
  go_loopw [6] (fun p wr => ∃ i : Nat, n ≤ i ∧ i ≤ nf ∧ p = .int .i64 i ∧ At w [(g, 5, dc (F.take i ++ List.replicate (nf - i) 0))] wr) (fun p _ => nf - (intOf p).toNat)
  case atStart => exact ⟨n, by omega, hnn, rfl, hA2⟩
  case round =>
    clear hA2
    obtain ⟨i, hi0, hi, rfl, hAr⟩ := hrel
    by_cases hlt : i < nf
    · have e3 : IntKind.i64.wrap ((i : Int) + 1) = (i : Int) + 1 := IntWalk.i64_in _ (by omega)
      have lt1 : (i : Int) < nf := by omega
      have Hput : Hid ((dc (F.take i ++ List.replicate (nf - i) 0)).set i (.int .u8 (v.toNat : Int)) = dc (F.take (i + 1) ++ List.replicate (nf - (i + 1)) 0)) := Lib.hid (by
        have h := fill_put (l := F) (j := i) (by rw [HFl.out]; exact hlt) (nf - (i + 1))
        rw [HFv i hi0 hlt, show nf - (i + 1) + 1 = nf - i by omega] at h
        exact h)
      have Hlen : Hid ((dc (F.take i ++ List.replicate (nf - i) 0)).length = nf) := Lib.hid (by
        have h := HFl.out
        rw [dc_length, List.length_append, List.length_take, List.length_replicate]; omega)
      go_wp2_with (first
        | (with_reducible refine at_store rfl ?_
           go_loud (refine wpList_plain rfl (fun _ hK => wp_store1 (off := i) rfl hAr rfl (v := .int .u8 (v.toNat : Int)) rfl 0 rfl (by rw [Hlen.out]; exact hlt) rfl bk_size5 (fun w5 hA5 => hK _ _ ?_)); clear hK
                    replace hA5 : At w [(g, 5, (dc (F.take i ++ List.replicate (nf - i) 0)).set i (.int .u8 (v.toNat : Int)))] w5 := hA5
                    rw [Hput.out] at hA5)))
      go_roundw
      case rel => exact ⟨i + 1, by omega, by omega, by go_num, hA5⟩
      case measure => simp [intOf]; omega
    · obtain rfl : i = nf := by omega
      go_wp2
      go_ret
      refine ⟨g, by rw [Hnf.out, Hn.out]; rfl, hg, ?_⟩
      have h1 := hAr
      rw [Nat.sub_self, List.replicate_zero, List.append_nil, List.take_of_length_le (by rw [HFl.out]; exact Nat.le_refl _), HF.out] at h1
      exact h1
end Go.Proofs.YtppmhlkonemebaaDoor
