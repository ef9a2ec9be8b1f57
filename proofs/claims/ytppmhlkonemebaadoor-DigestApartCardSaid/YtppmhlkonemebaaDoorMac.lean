/- The walk of Mac, of a key that fits a block. -/
import Derived.Test.YtppmhlkonemebaaDoorOf
namespace Go.Proofs.YtppmhlkonemebaaDoor
open Go.RowKit Go.Dk

theorem zero84 : zeroIs Tryd.prog 84 (.agg (dc (List.replicate 64 0)).toArray) := by unfold zeroIs; kernel_rfl
def fill64 (k : List UInt8) : List UInt8 := k ++ List.replicate (64 - k.length) 0
def xin (b : UInt8) : UInt8 := b ^^^ 54
def xout (b : UInt8) : UInt8 := b ^^^ 92
def macL (k m : List UInt8) : List UInt8 := sha ((fill64 k).map xout ++ sha ((fill64 k).map xin ++ m))
theorem xor_in (b : UInt8) : bits .xor .u8 ((b.toNat : Nat) : Int) 54 = ((xin b).toNat : Int) := by
  rw [show (54 : Int) = ((54 : Nat) : Int) from rfl, u8_xor_nat _ _ b.toNat_lt (by decide)]
  rfl
theorem xor_out (b : UInt8) : bits .xor .u8 ((b.toNat : Nat) : Int) 92 = ((xout b).toNat : Int) := by
  rw [show (92 : Int) = ((92 : Nat) : Int) from rfl, u8_xor_nat _ _ b.toNat_lt (by decide)]
  rfl
theorem mset (f : UInt8 → UInt8) (X : List UInt8) (i : Nat) (hi : i < X.length) :
    (dc ((X.map f).take i ++ X.drop i)).set i (.int .u8 ((f (bAt X i)).toNat : Int)) = dc ((X.map f).take (i + 1) ++ X.drop (i + 1)) := by
  have h1 : (X.map f)[i]? = some (f (bAt X i)) := by simp [bAt, hi]
  have h2 : X.drop i = bAt X i :: X.drop (i + 1) := by rw [List.drop_eq_getElem_cons hi]; congr 1; simp [bAt, hi]
  rw [dc_append, List.set_append, if_neg (by rw [dc_length, List.length_take, List.length_map]; omega)]
  rw [dc_length, List.length_take, List.length_map, show i - min i X.length = 0 by omega, h2, List.take_add_one, h1]
  generalize X.drop (i + 1) = D
  generalize (X.map f).take i = T0
  simp [dc]
theorem mget (f : UInt8 → UInt8) (X : List UInt8) (i : Nat) (hi : i < X.length) : (dc ((X.map f).take i ++ X.drop i))[i]? = some (.int .u8 ((bAt X i).toNat : Int)) := by
  have hl : ((X.map f).take i ++ X.drop i).length = X.length := by rw [List.length_append, List.length_take, List.length_map, List.length_drop]; omega
  rw [dc_at (by rw [hl]; exact hi)]
  congr 3
  unfold bAt
  rw [List.getElem?_append_right (by rw [List.length_take, List.length_map]; omega), List.length_take, List.length_map, show i - min i X.length = 0 by omega, List.getElem?_drop, Nat.add_zero]
theorem mlen (f : UInt8 → UInt8) (X : List UInt8) (i : Nat) (hi : i ≤ X.length) : (dc ((X.map f).take i ++ X.drop i)).length = X.length := by
  rw [dc_length, List.length_append, List.length_take, List.length_map, List.length_drop]; omega
theorem mend (f : UInt8 → UInt8) (X : List UInt8) (i : Nat) (hi : i = X.length) : (X.map f).take i ++ X.drop i = X.map f := by
  rw [hi, List.drop_length, List.append_nil, List.take_of_length_le (by rw [List.length_map]; exact Nat.le_refl _)]

set_option maxRecDepth 100000 in
set_option maxHeartbeats 2000000 in
theorem mac_short (w : World) (K M : Option Addr) (k m : List UInt8) (ck cm nk nm : Nat) (hnk : nk = k.length) (hnm : nm = m.length) (hk64 : nk ≤ 64) (hcm : nm ≤ cm) (hBk : Bts w K k) (hBm : Bts w M m) (hI : In w M) (hm : m.length < 140737488355328) (hT : Tab w) :
    Calls Tryd.prog 25 #[.slice K nk ck, .slice M nm cm] w fun e w' => e = .returned (.agg (dc (macL k m)).toArray) ∧ At w [] w' := by
  have hA0 := At.refl w
  have hpos : 0 < w.heap.size := hT.lt
  subst hnm
  have Hnk := Lib.hid hnk
  have hk65 : (nk : Int) ≤ 64 := by omega
  clear hnk
  obtain ⟨X, HX⟩ : ∃ X, Hid (X = fill64 k) := ⟨_, rfl⟩
  have HXl : Hid (X.length = 64) := Lib.hid (by rw [HX.out, fill64, List.length_append, List.length_replicate]; have := Hnk.out; omega)
  have HXs : Hid (splice (dc (List.replicate 64 0)) 0 (dc k) = dc ((X.map xin).take 0 ++ X.drop 0)) := Lib.hid (by
    rw [HX.out, List.take_zero, List.nil_append, List.drop_zero, fill64, dc_append]
    unfold splice
    rw [dc_length, dc_drop, List.drop_replicate, List.take_zero, List.nil_append, Nat.zero_add])
  have HXo : Hid (dc ((X.map xin).take 0 ++ X.drop 0) = dc ((X.map xout).take 0 ++ X.drop 0)) := Lib.hid rfl
  obtain ⟨Z0, HZ0⟩ : ∃ Z, Hid (Z = dc (List.replicate 32 0)) := ⟨_, rfl⟩
  go_enter Tryd.func25, Tryd.ntmps25
  go_wp2_with (first
    | (with_reducible refine at_alloc rfl ?_
       refine wpList_plain rfl (fun _ hK => wp_alloc rfl hA0 zero36 (fun b4 w1 hb4 hA1 => hK _ _ ?_)); clear hK hA0
       replace hA1 : At w [(b4, 36, Z0)] w1 := by rw [HZ0.out]; exact hA1)
    | (with_reducible refine at_alloc rfl ?_
       refine wpList_plain rfl (fun _ hK => wp_alloc rfl hA1 zero84 (fun b5 w2 hb5 hA2 => hK _ _ ?_)); clear hK
       have hs1 := hA1.size
       have q1 : b4 < b5 := by have := hA1.lt (k := 0) rfl; omega
       clear hA1
       replace hA2 : At w [(b5, 84, dc (List.replicate 64 0)), (b4, 36, Z0)] w2 := hA2)
    | (with_reducible refine at_alloc rfl ?_
       refine wpList_plain rfl (fun _ hK => wp_alloc rfl hA2 zero84 (fun b6 w3 hb6 hA3 => hK _ _ ?_)); clear hK
       have q2 : b5 < b6 := by have := hA2.lt (k := 0) rfl; omega
       clear hA2
       replace hA3 : At w [(b6, 84, dc (List.replicate 64 0)), (b5, 84, dc (List.replicate 64 0)), (b4, 36, Z0)] w3 := hA3
       have hn3 : ∀ r ∈ [((b6, 84, dc (List.replicate 64 0)) : Row), (b5, 84, dc (List.replicate 64 0)), (b4, 36, Z0)], w.heap.size ≤ r.1 := by
         intro r hr; simp only [List.mem_cons, List.not_mem_nil, or_false] at hr; rcases hr with h | h | h <;> subst h <;> simp only <;> omega)
    | (with_reducible refine at_slice rfl ?_
       refine wpList_plain rfl (fun _ hK => wp_sliceArr (l := 0) (h := 64) rfl Tryd.underlying84 bk_size5 rfl (boundIs_none 0) (boundIs_none 64) (by decide) (by decide) (hK _ _ ?_)); clear hK
       rw [sub_zero, Nat.sub_zero, Nat.sub_zero])
    | (with_reducible refine at_bin rfl ?_
       refine wpList_plain rfl (fun _ hK => wp_copy (l := k) (off := 0) rfl hA3 Tryd.underlying24 bk_size5 rfl rfl (by rw [← Hnk.out]; exact (Nat.min_eq_left hk64).symm) (hBk.fresh hA3 hn3) 1 rfl (fun _ => rfl) (by rw [dc_length, List.length_replicate, ← Hnk.out]; omega) (fun w4 hA4 => hK _ _ ?_)); clear hK
       replace hA4 : At w [(b6, 84, dc (List.replicate 64 0)), (b5, 84, splice (dc (List.replicate 64 0)) 0 (dc k)), (b4, 36, Z0)] w4 := hA4
       rw [HXs.out] at hA4
       clear hA3
       have hn4 : ∀ r ∈ [((b6, 84, dc (List.replicate 64 0)) : Row), (b5, 84, dc ((X.map xin).take 0 ++ X.drop 0)), (b4, 36, Z0)], w.heap.size ≤ r.1 := by
         intro r hr; simp only [List.mem_cons, List.not_mem_nil, or_false] at hr; rcases hr with h | h | h <;> subst h <;> simp only <;> omega)
    | (with_reducible refine at_bin rfl ?_
       refine wpList_plain rfl (fun _ hK => wp_copy (l := k) (off := 0) rfl hA4 Tryd.underlying24 bk_size5 rfl rfl (by rw [← Hnk.out]; exact (Nat.min_eq_left hk64).symm) (hBk.fresh hA4 hn4) 0 rfl (fun _ => rfl) (by rw [dc_length, List.length_replicate, ← Hnk.out]; omega) (fun w5 hA5 => hK _ _ ?_)); clear hK
       replace hA5 : At w [(b6, 84, splice (dc (List.replicate 64 0)) 0 (dc k)), (b5, 84, dc ((X.map xin).take 0 ++ X.drop 0)), (b4, 36, Z0)] w5 := hA5
       rw [HXs.out, HXo.out] at hA5
       clear hA4))
  generalize decide ((64 : Int) < (nk : Int)) = q
  clear hn3 hn4
  go_loopw [23] (fun p wr => ∃ i : Nat, i ≤ 64 ∧ p = .int .i64 i ∧ At w [(b6, 84, dc ((X.map xout).take i ++ X.drop i)), (b5, 84, dc ((X.map xin).take i ++ X.drop i)), (b4, 36, Z0)] wr) (fun p _ => 64 - (intOf p).toNat)
  case atStart => exact ⟨0, by omega, rfl, hA5⟩
  case round =>
    clear hA5
    obtain ⟨i, hi, rfl, hAr⟩ := hrel
    by_cases hlt : i < 64
    · have lt1 : (i : Int) < 64 := by omega
      have e3 : IntKind.i64.wrap ((i : Int) + 1) = (i : Int) + 1 := IntWalk.i64_in _ (by omega)
      have HgI := Lib.hid (mget xin X i (by rw [HXl.out]; exact hlt))
      have HgO := Lib.hid (mget xout X i (by rw [HXl.out]; exact hlt))
      have HsI := Lib.hid (mset xin X i (by rw [HXl.out]; exact hlt))
      have HsO := Lib.hid (mset xout X i (by rw [HXl.out]; exact hlt))
      have HlI := Lib.hid (mlen xin X i (by rw [HXl.out]; exact hi))
      have HlO := Lib.hid (mlen xout X i (by rw [HXl.out]; exact hi))
      go_wp2_with (first
        | (with_reducible refine at_load rfl ?_
           refine wpList_plain rfl (fun _ hK => wp_load1 (off := i) rfl hAr rfl 1 rfl HgI.out bk_no5 (hK _ _ ?_)); clear hK)
        | (with_reducible refine at_store rfl ?_
           refine wpList_plain rfl (fun _ hK => wp_store1 (off := i) rfl hAr rfl (val_u8' (xor_in (bAt X i))) 1 rfl (by rw [HlI.out, HXl.out]; exact hlt) rfl bk_size5 (fun w6 hA6 => hK _ _ ?_)); clear hK
           replace hA6 : At w [(b6, 84, dc ((X.map xout).take i ++ X.drop i)), (b5, 84, (dc ((X.map xin).take i ++ X.drop i)).set i (.int .u8 ((xin (bAt X i)).toNat : Int))), (b4, 36, Z0)] w6 := hA6
           rw [HsI.out] at hA6
           clear hAr)
        | (with_reducible refine at_load rfl ?_
           refine wpList_plain rfl (fun _ hK => wp_load1 (off := i) rfl hA6 rfl 0 rfl HgO.out bk_no5 (hK _ _ ?_)); clear hK)
        | (with_reducible refine at_store rfl ?_
           refine wpList_plain rfl (fun _ hK => wp_store1 (off := i) rfl hA6 rfl (val_u8' (xor_out (bAt X i))) 0 rfl (by rw [HlO.out, HXl.out]; exact hlt) rfl bk_size5 (fun w7 hA7 => hK _ _ ?_)); clear hK
           replace hA7 : At w [(b6, 84, (dc ((X.map xout).take i ++ X.drop i)).set i (.int .u8 ((xout (bAt X i)).toNat : Int))), (b5, 84, dc ((X.map xin).take (i + 1) ++ X.drop (i + 1))), (b4, 36, Z0)] w7 := hA7
           rw [HsO.out] at hA7))
      go_roundw
      case rel => exact ⟨i + 1, by omega, by go_num, hA7⟩
      case measure => simp [intOf]; omega
    · obtain rfl : i = 64 := by omega
      rw [mend xin X 64 HXl.out.symm, mend xout X 64 HXl.out.symm] at hAr
      obtain ⟨I, HI⟩ : ∃ I, Hid (I = X.map xin) := ⟨_, rfl⟩
      obtain ⟨O, HO⟩ : ∃ O, Hid (O = X.map xout) := ⟨_, rfl⟩
      rw [← HI.out, ← HO.out] at hAr
      have HIl : Hid (64 = I.length) := Lib.hid (by rw [HI.out, List.length_map, HXl.out])
      have HOl : Hid (64 = O.length) := Lib.hid (by rw [HO.out, List.length_map, HXl.out])
      obtain ⟨D, HD⟩ : ∃ D, Hid (D = sha (I ++ m)) := ⟨_, rfl⟩
      have HDl : Hid (32 = D.length) := Lib.hid (by rw [HD.out, sha_length])
      obtain ⟨C, HC⟩ : ∃ C, Hid (C = sha (O ++ D)) := ⟨_, rfl⟩
      have HCm : Hid (C = macL k m) := Lib.hid (by rw [HC.out, HO.out, HD.out, HI.out, HX.out]; rfl)
      have HCl : Hid (C.length = 32) := Lib.hid (by rw [HC.out, sha_length])
      have Hdd : Hid ((dc D).length = 32) := Lib.hid (by rw [dc_length, ← HDl.out])
      have Hdc : Hid ((dc C).length = 32) := Lib.hid (by rw [dc_length, HCl.out])
      have Hy2 : Hid ((Tryd.prog.info? 36).map (·.size) = some (dc D).toArray.size) := Lib.hid (by rw [size36, List.size_toArray, Hdd.out])
      have Hy1 : Hid (0 + (dc D).toArray.size ≤ Z0.length) := Lib.hid (by rw [List.size_toArray, Hdd.out, HZ0.out]; exact Nat.le_of_eq (by rfl))
      have Hy3 : Hid (∀ v ∈ (dc D).toArray, v.oneCell' = true) := Lib.hid (fun v hv => dc_one _ v (by simpa using hv))
      have Hy4 : Hid (splice Z0 0 (dc D) = dc D) := Lib.hid (splice_all' _ _ (by rw [Hdd.out, HZ0.out]; rfl))
      have Hx2 : Hid ((Tryd.prog.info? 36).map (·.size) = some (dc C).toArray.size) := Lib.hid (by rw [size36, List.size_toArray, Hdc.out])
      have Hx1 : Hid (0 + (dc C).toArray.size ≤ Z0.length) := Lib.hid (by rw [List.size_toArray, Hdc.out, HZ0.out]; exact Nat.le_of_eq (by rfl))
      have Hx3 : Hid (∀ v ∈ (dc C).toArray, v.oneCell' = true) := Lib.hid (fun v hv => dc_one _ v (by simpa using hv))
      have Hx4 : Hid (splice Z0 0 (dc C) = dc C) := Lib.hid (splice_all' _ _ (by rw [Hdc.out, HZ0.out]; rfl))
      have hsm : I.length + m.length < 1152921504606846976 := by have := HIl.out; omega
      have hsd : O.length + D.length < 1152921504606846976 := by have := HOl.out; have := HDl.out; omega
      have full : ∀ l : List UInt8, ((dc l).drop 0).take l.length = dc l := fun l => by rw [List.drop_zero, List.take_of_length_le (by rw [dc_length]; exact Nat.le_refl _)]
      go_wp2_with (first
        | (go_at_call 13
           with_reducible refine (new_any wr).mono ?_
           rintro e' w2 ⟨h1, cs, rfl, hh1, hH, hc2⟩
           have hA6 : At w [(h1, 87, cs), (b6, 84, dc O), (b5, 84, dc I), (b4, 36, Z0)] w2 := hAr.thenNew hc2 (by intro r hr; simp only [List.mem_cons, List.not_mem_nil, or_false] at hr; subst hr; exact hh1)
           have q4 : b6 < h1 := by have := hAr.lt (k := 0) rfl; omega
           have hBI : Bts w2 (some ⟨b5, 0, none⟩) I := Bts.row hA6 (k := 2) rfl (full _)
           clear hc2 hAr)
        | (with_reducible refine at_slice rfl ?_
           refine wpList_plain rfl (fun _ hK => wp_sliceArr (l := 0) (h := 64) rfl Tryd.underlying84 bk_size5 rfl (boundIs_none 0) (boundIs_none 64) (by decide) (by decide) (hK _ _ ?_)); clear hK
           rw [sub_zero, Nat.sub_zero, Nat.sub_zero])
        | (go_at_call 14
           with_reducible refine (write_n w2 h1 [] cs hH (hA6.row (k := 0) rfl) (some ⟨b5, 0, none⟩) I 64 64 HIl.out hBI (by rw [← HIl.out]; exact Nat.le_refl _) (off_some (by omega)) (by rw [← HIl.out]; decide) (hT.at_ hA6 (by simp; omega)) (by omega)).mono ?_
           rintro e' w3 ⟨rfl, cs1, hH1, hc3⟩
           have hA7 : At w [(h1, 87, cs1), (b6, 84, dc O), (b5, 84, dc I), (b4, 36, Z0)] w3 := hA6.then1 (k := 0) rfl hc3
           clear hc3 hA6 hH hBI)
        | (go_at_call 14
           with_reducible refine (write_any w3 h1 ([] ++ I) cs1 hH1 (hA7.row (k := 0) rfl) M m cm (hBm.fresh hA7 (by
             intro r hr; simp only [List.mem_cons, List.not_mem_nil, or_false] at hr; rcases hr with h | h | h | h <;> subst h <;> simp only <;> omega)) hcm (hI.off (by omega)) (by rw [List.nil_append]; exact hsm) (hT.at_ hA7 (by simp; omega)) (by omega)).mono ?_
           rintro e' w4 ⟨rfl, cs2, hH2, hc4⟩
           have hA8 : At w [(h1, 87, cs2), (b6, 84, dc O), (b5, 84, dc I), (b4, 36, Z0)] w4 := hA7.then1 (k := 0) rfl hc4
           clear hc4 hA7 hH1)
        | (go_at_call 15
           with_reducible refine (sum_any w4 h1 ([] ++ I ++ m) cs2 hH2 (hA8.row (k := 0) rfl) (by rw [List.nil_append, List.length_append]; have := HIl.out; omega) (hT.at_ hA8 (by simp; omega)) (by omega)).mono ?_
           rintro e' w5 ⟨rfl, hc5⟩
           have hA9 := hA8.then0 hc5
           rw [List.nil_append, ← HD.out]
           clear hc5 hA8 hH2)
        | (with_reducible refine at_alloc rfl ?_
           refine wpList_plain rfl (fun _ hK => wp_alloc rfl hA9 zero36 (fun b10 w6 hb10 hA10 => hK _ _ ?_)); clear hK
           have q5 : h1 < b10 := by have := hA9.lt (k := 0) rfl; omega
           replace hA10 : At w [(b10, 36, Z0), (h1, 87, cs2), (b6, 84, dc O), (b5, 84, dc I), (b4, 36, Z0)] w6 := by
             have h : At w [(b10, 36, dc (List.replicate 32 0)), (h1, 87, cs2), (b6, 84, dc O), (b5, 84, dc I), (b4, 36, Z0)] w6 := hA10
             rw [← HZ0.out] at h; exact h)
        | (with_reducible refine at_store rfl ?_
           refine wpList_plain rfl (fun _ hK => wp_storeRow (off := 0) (new := (dc D).toArray) rfl hA10 rfl rfl 0 rfl Hy1.out Hy3.out Hy2.out (fun w7 hA11 => hK _ _ ?_)); clear hK
           replace hA11 : At w [(b10, 36, splice Z0 0 (dc D)), (h1, 87, cs2), (b6, 84, dc O), (b5, 84, dc I), (b4, 36, Z0)] w7 := hA11
           rw [Hy4.out] at hA11
           clear hA10)
        | (go_at_call 13
           with_reducible refine (new_any w7).mono ?_
           rintro e' w8 ⟨h2, ct, rfl, hh2, hG, hc8⟩
           have hA12 : At w [(h2, 87, ct), (b10, 36, dc D), (h1, 87, cs2), (b6, 84, dc O), (b5, 84, dc I), (b4, 36, Z0)] w8 := hA11.thenNew hc8 (by intro r hr; simp only [List.mem_cons, List.not_mem_nil, or_false] at hr; subst hr; exact hh2)
           have q6 : b10 < h2 := by have := hA11.lt (k := 0) rfl; omega
           have hBO : Bts w8 (some ⟨b6, 0, none⟩) O := Bts.row hA12 (k := 3) rfl (full _)
           clear hc8 hA11)
        | (go_at_call 14
           with_reducible refine (write_n w8 h2 [] ct hG (hA12.row (k := 0) rfl) (some ⟨b6, 0, none⟩) O 64 64 HOl.out hBO (by rw [← HOl.out]; exact Nat.le_refl _) (off_some (by omega)) (by rw [← HOl.out]; decide) (hT.at_ hA12 (by simp; omega)) (by omega)).mono ?_
           rintro e' w9 ⟨rfl, ct1, hG1, hc9⟩
           have hA13 : At w [(h2, 87, ct1), (b10, 36, dc D), (h1, 87, cs2), (b6, 84, dc O), (b5, 84, dc I), (b4, 36, Z0)] w9 := hA12.then1 (k := 0) rfl hc9
           have hBD : Bts w9 (some ⟨b10, 0, none⟩) D := Bts.row hA13 (k := 1) rfl (full _)
           clear hc9 hA12 hG hBO)
        | (with_reducible refine at_slice rfl ?_
           refine wpList_plain rfl (fun _ hK => wp_sliceArr (l := 0) (h := 32) rfl Tryd.underlying36 bk_size5 rfl (boundIs_none 0) (boundIs_none 32) (by decide) (by decide) (hK _ _ ?_)); clear hK
           rw [sub_zero, Nat.sub_zero, Nat.sub_zero])
        | (go_at_call 14
           with_reducible refine (write_n w9 h2 ([] ++ O) ct1 hG1 (hA13.row (k := 0) rfl) (some ⟨b10, 0, none⟩) D 32 32 HDl.out hBD (by rw [← HDl.out]; exact Nat.le_refl _) (off_some (by omega)) (by rw [List.nil_append]; exact hsd) (hT.at_ hA13 (by simp; omega)) (by omega)).mono ?_
           rintro e' w10 ⟨rfl, ct2, hG2, hc10⟩
           have hA14 : At w [(h2, 87, ct2), (b10, 36, dc D), (h1, 87, cs2), (b6, 84, dc O), (b5, 84, dc I), (b4, 36, Z0)] w10 := hA13.then1 (k := 0) rfl hc10
           clear hc10 hA13 hG1 hBD)
        | (go_at_call 15
           with_reducible refine (sum_any w10 h2 ([] ++ O ++ D) ct2 hG2 (hA14.row (k := 0) rfl) (by rw [List.nil_append, List.length_append, ← HOl.out, ← HDl.out]; decide) (hT.at_ hA14 (by simp; omega)) (by omega)).mono ?_
           rintro e' w11 ⟨rfl, hc11⟩
           have hA15 := hA14.then0 hc11
           rw [List.nil_append, ← HC.out]
           clear hc11 hA14 hG2)
        | (with_reducible refine at_store rfl ?_
           refine wpList_plain rfl (fun _ hK => wp_storeRow (off := 0) (new := (dc C).toArray) rfl hA15 rfl rfl 5 rfl Hx1.out Hx3.out Hx2.out (fun w12 hA16 => hK _ _ ?_)); clear hK
           replace hA16 : At w [(h2, 87, ct2), (b10, 36, dc D), (h1, 87, cs2), (b6, 84, dc O), (b5, 84, dc I), (b4, 36, splice Z0 0 (dc C))] w12 := hA16
           rw [Hx4.out] at hA16))
      refine bodyPost_ret (results_cell Tryd.results25 hA16 rfl 5 rfl (by rw [Hdc.out]; exact row36)) rfl ⟨by rw [HCm.out], hA16.clear (fun r hr => ?_)⟩
      simp only [List.mem_cons, List.not_mem_nil, or_false] at hr
      rcases hr with rfl | rfl | rfl | rfl | rfl | rfl <;> simp only <;> omega
end Go.Proofs.YtppmhlkonemebaaDoor
