/- The walks of turned, Must. -/
import Derived.Test.YtppmhlkonemebaaDoorBook
import Derived.Laws.BitsAllLaws
namespace Go.Proofs.YtppmhlkonemebaaDoor
open Go.RowKit Go.Dk

theorem mu_zero36 : zeroIs Tryd.prog 36 (.agg (dc (List.replicate 32 0)).toArray) := by unfold zeroIs; kernel_rfl
theorem mu_row36 : isRow Tryd.prog 36 32 = true := by kernel_rfl
theorem mu_size36 : (Tryd.prog.info? 36).map (·.size) = some 32 := by kernel_rfl

set_option maxRecDepth 100000 in
set_option maxHeartbeats 400000 in
/-- Must of 32 bytes -/
theorem must_any (w : World) (X : Option Addr) (l : List UInt8) (c n : Nat) (hn : n = 32) (hl : l.length = 32) (hX : Bts w X l) :
    Calls Tryd.prog 58 #[.slice X n c] w fun e w' => e = .returned (.agg (dc l).toArray) ∧ At w [] w' := by
  subst hn
  have hA0 := At.refl w
  have Hl := Lib.hid hl
  have Hd : Hid ((dc l).length = 32) := Lib.hid (by rw [dc_length, hl])
  have Htk : Hid (((dc l).drop 0).take 32 = dc l) := Lib.hid (by rw [List.drop_zero, List.take_of_length_le (by rw [Hd.out]; exact Nat.le_refl _)])
  have Hz4 : Hid (splice (dc (List.replicate 32 0)) 0 (dc l) = dc l) := Lib.hid (splice_all' _ _ (by rw [Hd.out]; rfl))
  have Hz2 : Hid ((Tryd.prog.info? 36).map (·.size) = some (dc l).toArray.size) := Lib.hid (by rw [mu_size36, List.size_toArray, Hd.out])
  have Hz1 : Hid (0 + (dc l).toArray.size ≤ (dc (List.replicate 32 0)).length) := Lib.hid (by rw [List.size_toArray, Hd.out]; exact Nat.le_of_eq (by rfl))
  have Hz3 : Hid (∀ v ∈ (dc l).toArray, v.oneCell' = true) := Lib.hid (fun v hv => dc_one _ v (by simpa using hv))
  clear hl
  go_enter Tryd.func58, Tryd.ntmps58
  go_wp2_with (first
    | (with_reducible refine at_alloc rfl ?_
       refine wpList_plain rfl (fun _ hK => wp_alloc rfl hA0 mu_zero36 (fun b2 w1 hb2 hA1 => hK _ _ ?_)); clear hK hA0
       replace hA1 : At w [(b2, 36, dc (List.replicate 32 0))] w1 := hA1)
    | (with_reducible refine at_alloc rfl ?_
       refine wpList_plain rfl (fun _ hK => wp_alloc rfl hA1 mu_zero36 (fun b3 w2 hb3 hA2 => hK _ _ ?_)); clear hK
       replace hA2 : At w [(b3, 36, dc (List.replicate 32 0)), (b2, 36, dc (List.replicate 32 0))] w2 := hA2)
    | (with_reducible refine at_slice rfl ?_
       refine wpList_plain rfl (fun _ hK => wp_sliceArr (l := 0) (h := 32) rfl Tryd.underlying36 bk_size5 rfl (boundIs_none 0) (boundIs_none 32) (by decide) (by decide) (hK _ _ ?_)); clear hK
       rw [sub_zero, Nat.sub_zero, Nat.sub_zero])
    | (with_reducible refine at_bin rfl ?_
       refine wpList_plain rfl (fun _ hK => wp_copy (l := l) (off := 0) rfl hA2 Tryd.underlying24 bk_size5 rfl rfl (by rw [Hl.out]; rfl) (hX.fresh hA2 (by intro r hr; simp only [List.mem_cons, List.not_mem_nil, or_false] at hr; have := hA1.size; rcases hr with h | h <;> subst h <;> simp only <;> omega)) 0 rfl (fun _ => rfl) (by rw [Hl.out]; decide) (fun w3 hA3 => hK _ _ ?_)); clear hK
       replace hA3 : At w [(b3, 36, splice (dc (List.replicate 32 0)) 0 (dc l)), (b2, 36, dc (List.replicate 32 0))] w3 := hA3
       rw [Hz4.out] at hA3)
    | (with_reducible refine at_load rfl ?_
       refine wpList_plain rfl (fun _ hK => wp_loadRow (off := 0) (n := 32) rfl hA3 rfl 0 rfl mu_row36 (by rw [Hd.out]; decide) (hK _ _ ?_)); clear hK
       rw [Htk.out])
    | (with_reducible refine at_store rfl ?_
       refine wpList_plain rfl (fun _ hK => wp_storeRow (off := 0) (new := (dc l).toArray) rfl hA3 rfl rfl 1 rfl Hz1.out Hz3.out Hz2.out (fun w4 hA4 => hK _ _ ?_)); clear hK
       replace hA4 : At w [(b3, 36, dc l), (b2, 36, splice (dc (List.replicate 32 0)) 0 (dc l))] w4 := hA4
       rw [Hz4.out] at hA4))
  have hs1 := hA1.size
  refine bodyPost_ret (results_cell Tryd.results58 hA4 rfl 1 rfl (by rw [Hd.out]; exact mu_row36)) rfl ⟨rfl, hA4.clear (fun r hr => ?_)⟩
  simp only [List.mem_cons, List.not_mem_nil, or_false] at hr
  rcases hr with rfl | rfl <;> simp only <;> omega

theorem val_u8' {a b : Int} (h : a = b) : Value.int .u8 a = .int .u8 b := by rw [h]
/-- every bit of a byte turned -/
def flip (b : UInt8) : UInt8 := b ^^^ 255
theorem flip_ne (b : UInt8) : flip b ≠ b := by
  have h : ∀ x : BitVec 8, x ^^^ 255#8 ≠ x := by decide
  intro he
  exact h b.toBitVec (congrArg UInt8.toBitVec he)
theorem turn_set (X : List UInt8) (R : List Value) (i : Nat) (hi : i < X.length) :
    (dc ((X.map flip).take i ++ X.drop i) ++ R).set i (.int .u8 ((flip (bAt X i)).toNat : Int)) = dc ((X.map flip).take (i + 1) ++ X.drop (i + 1)) ++ R := by
  have h1 : (X.map flip)[i]? = some (flip (bAt X i)) := by simp [bAt, hi]
  have h2 : X.drop i = bAt X i :: X.drop (i + 1) := by rw [List.drop_eq_getElem_cons hi]; congr 1; simp [bAt, hi]
  rw [List.set_append, if_pos (by rw [dc_length, List.length_append, List.length_take, List.length_map, List.length_drop]; omega), dc_append, List.set_append, if_neg (by rw [dc_length, List.length_take, List.length_map]; omega)]
  rw [dc_length, List.length_take, List.length_map, show i - min i X.length = 0 by omega, h2, List.take_add_one, h1]
  generalize X.drop (i + 1) = D
  generalize (X.map flip).take i = T0
  simp [dc]
theorem xor_flip (b : UInt8) : bits .xor .u8 ((b.toNat : Nat) : Int) 255 = ((flip b).toNat : Int) := by
  rw [show (255 : Int) = ((255 : Nat) : Int) from rfl, u8_xor_nat _ _ b.toNat_lt (by decide)]
  rfl
theorem turn_get (X : List UInt8) (R : List Value) (i : Nat) (hi : i < X.length) : (dc ((X.map flip).take i ++ X.drop i) ++ R)[i]? = some (.int .u8 ((bAt X i).toNat : Int)) := by
  have hl : ((X.map flip).take i ++ X.drop i).length = X.length := by rw [List.length_append, List.length_take, List.length_map, List.length_drop]; omega
  rw [List.getElem?_append_left (by rw [dc_length, hl]; exact hi), dc_at (by rw [hl]; exact hi)]
  congr 3
  unfold bAt
  rw [List.getElem?_append_right (by rw [List.length_take, List.length_map]; omega), List.length_take, List.length_map, show i - min i X.length = 0 by omega, List.getElem?_drop, Nat.add_zero]

def Turned (w : World) (g : Nat) (T : TypeId) (X : List UInt8) (R : List Value) (e : Ending) (w' : World) : Prop :=
  ∃ g' cap z, e = .returned (.slice (some ⟨g', 0, none⟩) X.length cap) ∧ w.heap.size ≤ g' ∧ At w [(g', 5, dc (X.map flip ++ List.replicate z 0)), (g, T, dc (X.map flip) ++ R)] w'

set_option maxRecDepth 100000 in
set_option maxHeartbeats 400000 in
theorem turned_any (w : World) (g : Nat) (T : TypeId) (X : List UInt8) (R : List Value) (c n : Nat) (hn : n = X.length) (hX : X ≠ []) (hl : X.length < 140737488355328) (hrow : w.heap[g]? = some (.cells (dc X ++ R).toArray T (0, 0))) :
    Calls Tryd.prog 27 #[.slice (some ⟨g, 0, none⟩) n c] w (Turned w g T X R) := by
  have hA0 : At w [(g, T, dc ((X.map flip).take 0 ++ X.drop 0) ++ R)] w := At.start1 hrow
  have Hn := Lib.hid hn
  have hnb : n < 140737488355328 := by omega
  clear hn hl
  go_enter Tryd.func27, Tryd.ntmps27
  go_wp2
  go_loopw [3] (fun p wr => ∃ i : Nat, i ≤ n ∧ p = .int .i64 i ∧ At w [(g, T, dc ((X.map flip).take i ++ X.drop i) ++ R)] wr) (fun p _ => n - (intOf p).toNat)
  case atStart => exact ⟨0, by omega, rfl, hA0⟩
  case round =>
    clear hA0
    obtain ⟨i, hi, rfl, hAr⟩ := hrel
    by_cases hlt : i < n
    · have e3 : IntKind.i64.wrap ((i : Int) + 1) = (i : Int) + 1 := IntWalk.i64_in _ (by omega)
      have lt1 : (i : Int) < n := by omega
      have Hget := Lib.hid (turn_get X R i (by rw [← Hn.out]; exact hlt))
      have Hlen : Hid ((dc ((X.map flip).take i ++ X.drop i) ++ R).length = n + R.length) := Lib.hid (by
        have h := Hn.out
        rw [List.length_append, dc_length, List.length_append, List.length_take, List.length_map, List.length_drop]; omega)
      have Hset := Lib.hid (turn_set X R i (by rw [← Hn.out]; exact hlt))
      go_wp2_with (first
        | (with_reducible refine at_load rfl ?_
           refine wpList_plain rfl (fun _ hK => wp_load1 (off := i) rfl hAr rfl 0 rfl Hget.out bk_no5 (hK _ _ ?_)); clear hK)
        | (with_reducible refine at_store rfl ?_
           refine wpList_plain rfl (fun _ hK => wp_store1 (off := i) rfl hAr rfl (val_u8' (xor_flip (bAt X i))) 0 rfl (by rw [Hlen.out]; omega) rfl bk_size5 (fun w5 hA5 => hK _ _ ?_)); clear hK
           replace hA5 : At w [(g, T, (dc ((X.map flip).take i ++ X.drop i) ++ R).set i (.int .u8 ((flip (bAt X i)).toNat : Int)))] w5 := hA5
           rw [Hset.out] at hA5))
      go_roundw
      case rel => exact ⟨i + 1, by omega, by go_num, hA5⟩
      case measure => simp [intOf]; omega
    · obtain rfl : i = n := by omega
      have hEnd : (X.map flip).take i ++ X.drop i = X.map flip := by
        rw [Hn.out, List.drop_length, List.append_nil, List.take_of_length_le (by rw [List.length_map]; exact Nat.le_refl _)]
      rw [hEnd] at hAr
      clear hEnd
      obtain ⟨Y, HY⟩ : ∃ Y, Hid (Y = X.map flip) := ⟨_, rfl⟩
      rw [← HY.out] at hAr
      have HYl : Hid (i = Y.length) := Lib.hid (by rw [HY.out, List.length_map]; exact Hn.out)
      have HYn : Hid (Y ≠ []) := Lib.hid (by rw [HY.out]; simpa using hX)
      have hBt : Bts wr (some ⟨g, 0, none⟩) Y := Bts.row hAr (k := 0) rfl (by rw [List.drop_zero, List.take_append_of_le_length (by rw [dc_length]; exact Nat.le_refl _), List.take_of_length_le (by rw [dc_length]; exact Nat.le_refl _)])
      go_wp2_with (first
        | (with_reducible refine at_bin rfl ?_
           refine wpList_plain rfl (fun _ hK => wp_append_nil (l := Y) (c := c) (A := some ⟨g, 0, none⟩) rfl hAr Tryd.underlying24 Tryd.underlying24 bk_byte5 rfl (by rw [← HYl.out]; rfl) HYn.out (by rw [← HYl.out]; omega) hBt (fun g' cap z w6 hg hcap hA6 => hK _ _ ?_)); clear hK))
      go_ret
      have hs := hAr.size
      refine ⟨g', cap, z, by rw [← Hn.out, HYl.out]; rfl, by omega, ?_⟩
      rw [← HY.out]
      exact hA6
end Go.Proofs.YtppmhlkonemebaaDoor
