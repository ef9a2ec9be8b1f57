/- The walks of Of, Leaf, Branch, Empty. -/
import Derived.Test.YtppmhlkonemebaaDoorDigest
import Derived.Test.YtppmhlkonemebaaDoorCut
namespace Go.Proofs.YtppmhlkonemebaaDoor
open Go.RowKit Go.Dk

abbrev Part := Option Addr × Nat × List UInt8
def flat (ps : List Part) : List UInt8 := ps.flatMap (·.2.2)
/-- a slice of slices of bytes reads as these -/
def Parts (w : World) (pa : Option Addr) (ps : List Part) : Prop :=
  (ps ≠ [] → ∃ b o, pa = some ⟨b, o, none⟩ ∧ b < w.heap.size ∧ ∀ i A c l, ps[i]? = some (A, c, l) → w.cell? ⟨b, o + i, none⟩ = some (.slice A l.length c)) ∧
  ∀ A c l, (A, c, l) ∈ ps → l.length ≤ c ∧ Bts w A l ∧ In w A
theorem flat_take {ps : List Part} {i : Nat} {A : Option Addr} {c : Nat} {l : List UInt8} (h : ps[i]? = some (A, c, l)) : flat (ps.take (i + 1)) = flat (ps.take i) ++ l := by
  unfold flat
  rw [List.take_add_one, h]
  simp
theorem flat_le {ps : List Part} {i : Nat} {A : Option Addr} {c : Nat} {l : List UInt8} (h : ps[i]? = some (A, c, l)) : (flat (ps.take i)).length + l.length ≤ (flat ps).length := by
  have h1 := congrArg List.length (flat_take h)
  have h2 : flat ps = flat (ps.take (i + 1)) ++ flat (ps.drop (i + 1)) := by
    unfold flat; rw [← List.flatMap_append, List.take_append_drop]
  rw [h2, List.length_append, h1, List.length_append]
  omega
theorem build_byte (d : Int) (w : World) : (Instr.buildSlice 24 1 #[(0, .int .u8 d)]).run Tryd.prog w = .ok (.slice (some ⟨w.heap.size, 0, none⟩) 1 1) (w.alloc (.cells #[.int .u8 d] 5)) := by kernel_rfl
theorem build_part (A : Option Addr) (n c : Nat) (w : World) : (Instr.buildSlice 29 1 #[(0, .slice A n c)]).run Tryd.prog w = .ok (.slice (some ⟨w.heap.size, 0, none⟩) 1 1) (w.alloc (.cells #[.slice A n c] 24)) := by kernel_rfl
theorem build_part2 (A B : Option Addr) (n c m d : Nat) (w : World) : (Instr.buildSlice 29 2 #[(0, .slice A n c), (1, .slice B m d)]).run Tryd.prog w = .ok (.slice (some ⟨w.heap.size, 0, none⟩) 2 2) (w.alloc (.cells #[.slice A n c, .slice B m d] 24)) := by kernel_rfl
theorem write_n (w : World) (hb : Nat) (m : List UInt8) (cs : List Value) (hH : HS m cs) (hrow : w.heap[hb]? = some (.cells cs.toArray 87 (0, 0))) (A : Option Addr) (l : List UInt8) (c n : Nat) (hn : n = l.length)
    (hr : Bts w A l) (hc : l.length ≤ c) (hoff : Off A hb) (hsz : m.length + l.length < 1152921504606846976) (hT : Tab w) (hb0 : hb ≠ 0) :
    Calls Tryd.prog 14 #[.pointer (some ⟨hb, 0, none⟩), .slice A n c] w (Wrote w hb (m ++ l)) := by
  subst hn
  exact write_any w hb m cs hH hrow A l c hr hc hoff hsz hT hb0
theorem off_some {b o g : Nat} (h : b ≠ g) : Off (some ⟨b, o, none⟩) g := fun ad he => by cases he; exact h
theorem no24 : notRow Tryd.prog 24 = true := by kernel_rfl

set_option maxRecDepth 100000 in
set_option maxHeartbeats 1000000 in
theorem of_any (w : World) (width : Int) (dom : UInt8) (di : Int) (hdi : di = (dom.toNat : Int)) (pa : Option Addr) (ps : List Part) (c n : Nat) (hn : n = ps.length) (hP : Parts w pa ps) (hlen : (flat ps).length < 140737488355328) (hnb : n < 140737488355328) (hT : Tab w) :
    Calls Tryd.prog 51 #[.int .i64 width, .int .i64 di, .slice pa n c] w fun e w' => e = .returned (.agg (dc (cutL (sha (dom :: flat ps)) width)).toArray) ∧ At w [] w' := by
  have hA0 := At.refl w
  have hpos : 0 < w.heap.size := hT.lt
  have Hn := Lib.hid hn
  have hb1 := dom.toNat_lt
  have hd0 : 0 ≤ di ∧ di < 256 := by omega
  have Hdi := Lib.hid hdi
  clear hn hdi
  go_enter Tryd.func51, Tryd.ntmps51
  go_wp2_with (first
    | (with_reducible refine at_alloc rfl ?_
       refine wpList_plain rfl (fun _ hK => wp_alloc rfl hA0 zero36 (fun b2 w1 hb2 hA1 => hK _ _ ?_)); clear hK
       replace hA1 : At w [(b2, 36, dc (List.replicate 32 0))] w1 := hA1)
    | (go_at_call 13
       with_reducible refine (new_any w1).mono ?_
       rintro e' w2 ⟨b3, cs, rfl, hb3, hH, hc2⟩
       have hA2 : At w [(b3, 87, cs), (b2, 36, dc (List.replicate 32 0))] w2 := hA1.thenNew hc2 (by intro r hr; simp only [List.mem_cons, List.not_mem_nil, or_false] at hr; subst hr; exact hb3)
       have hs1 := hA1.size
       have q2 : b2 < b3 := by have := hA1.lt (k := 0) rfl; omega
       clear hc2)
    | (with_reducible refine at_buildSlice rfl ?_
       refine wpList_plain rfl (fun _ hK => wp_bs1 rfl hA2 (v := .int .u8 di) rfl (by exact build_byte di _) (fun b4 w3 hb4 hA3 => hK _ _ ?_)); clear hK
       replace hA3 : At w [(b4, 5, dc [dom]), (b3, 87, cs), (b2, 36, dc (List.replicate 32 0))] w3 := by rw [Hdi.out] at hA3; exact hA3
       have q3 : b3 < b4 := by have := hA2.lt (k := 0) rfl; omega
       have hBd : Bts w3 (some ⟨b4, 0, none⟩) [dom] := Bts.row hA3 (k := 0) rfl rfl)
    | (go_at_call 14
       go_loud (with_reducible refine (write_n w3 b3 [] cs hH (hA3.row (k := 1) rfl) (some ⟨b4, 0, none⟩) [dom] 1 1 rfl hBd (Nat.le_refl _) (off_some (by omega)) (by simp) (hT.at_ hA3 (by simp; omega)) (by omega)).mono ?_
                rintro e' w4 ⟨rfl, cs1, hH1, hc4⟩
                have hA4 : At w [(b4, 5, dc [dom]), (b3, 87, cs1), (b2, 36, dc (List.replicate 32 0))] w4 := hA3.then1 (k := 1) rfl hc4
                clear hc4 hH)))
  obtain ⟨Z0, HZ0⟩ : ∃ Z, Hid (Z = dc (List.replicate 32 0)) := ⟨_, rfl⟩
  rw [← HZ0.out] at hA4
  clear hA1 hA2 hA3 hBd
  obtain ⟨hP1, hP2⟩ := hP
  have hA5 := hA4
  clear hA4
  go_loopw [18] (fun p wr => ∃ (i : Nat) (cs : List Value), i ≤ n ∧ p = .int .i64 i ∧ HS (dom :: flat (ps.take i)) cs ∧ At w [(b4, 5, dc [dom]), (b3, 87, cs), (b2, 36, Z0)] wr) (fun p _ => n - (intOf p).toNat)
  case atStart => exact ⟨0, cs1, by omega, rfl, hH1, hA5⟩
  case round =>
    clear hA5 hH1
    obtain ⟨i, cs2, hi, rfl, hH2, hAr⟩ := hrel
    by_cases hlt : i < n
    · have hne : ps ≠ [] := fun e => by have h := Hn.out; rw [e] at h; simp at h; omega
      obtain ⟨b, o, rfl, hb, hcell⟩ := hP1 hne
      obtain ⟨⟨A, cA, l⟩, hp⟩ : ∃ q, ps[i]? = some q := ⟨_, List.getElem?_eq_getElem (by rw [← Hn.out]; exact hlt)⟩
      have Hc := Lib.hid (hcell i A cA l hp)
      obtain ⟨hlc, hBl, hIl⟩ := hP2 A cA l (List.mem_of_getElem? hp)
      have hfl := flat_le hp
      have Hft := Lib.hid (flat_take hp)
      have hni : b ∉ [b4, b3, b2] := by simp; omega
      have lt1 : (i : Int) < n := by omega
      have e3 : IntKind.i64.wrap ((i : Int) + 1) = (i : Int) + 1 := IntWalk.i64_in _ (by omega)
      have hn3 : ∀ r ∈ [((b4, 5, dc [dom]) : Row), (b3, 87, cs2), (b2, 36, Z0)], w.heap.size ≤ r.1 := by
        intro r hr; simp only [List.mem_cons, List.not_mem_nil, or_false] at hr; rcases hr with h | h | h <;> subst h <;> simp only <;> omega
      go_wp2_with (first
        | (with_reducible refine at_load rfl ?_
           refine wpList_plain rfl (fun _ hK => wp_loadOld (v := .slice A l.length cA) rfl rfl ((hAr.old hb hni _ _).trans Hc.out) no24 (hK _ _ ?_)); clear hK)
        | (go_at_call 14
           go_loud (with_reducible refine (write_any wr b3 _ cs2 hH2 (hAr.row (k := 1) rfl) A l cA (hBl.fresh hAr hn3) hlc (hIl.off (by omega)) (by simp only [List.length_cons]; omega) (hT.at_ hAr (by simp; omega)) (by omega)).mono ?_
                    rintro e' w5 ⟨rfl, cs3, hH3, hc5⟩
                    have hA6 : At w [(b4, 5, dc [dom]), (b3, 87, cs3), (b2, 36, Z0)] w5 := hAr.then1 (k := 1) rfl hc5
                    clear hc5)))
      go_roundw
      case rel =>
        refine ⟨i + 1, cs3, by omega, by go_num, ?_, hA6⟩
        rw [Hft.out]; exact hH3
      case measure => simp [intOf]; omega
    · obtain rfl : i = n := by omega
      rw [show ps.take i = ps from List.take_of_length_le (by rw [← Hn.out]; exact Nat.le_refl _)] at hH2
      obtain ⟨C, HC⟩ : ∃ C, Hid (C = cutL (sha (dom :: flat ps)) width) := ⟨_, rfl⟩
      have HCl : Hid ((dc C).length = 32) := Lib.hid (by rw [dc_length, HC.out, cutL_length _ _ (sha_length _)])
      have Hz4 : Hid (splice Z0 0 (dc C) = dc C) := Lib.hid (splice_all' _ _ (by rw [HCl.out, HZ0.out]; rfl))
      have Hz2 : Hid ((Tryd.prog.info? 36).map (·.size) = some (dc C).toArray.size) := Lib.hid (by rw [size36, List.size_toArray, HCl.out])
      have Hz1 : Hid (0 + (dc C).toArray.size ≤ Z0.length) := Lib.hid (by rw [List.size_toArray, HCl.out, HZ0.out]; exact Nat.le_of_eq (by rfl))
      have Hz3 : Hid (∀ v ∈ (dc C).toArray, v.oneCell' = true) := Lib.hid (fun v hv => dc_one _ v (by simpa using hv))
      go_wp2_with (first
        | (go_at_call 15
           with_reducible refine (sum_any wr b3 _ cs2 hH2 (hAr.row (k := 1) rfl) (by simp only [List.length_cons]; omega) (hT.at_ hAr (by simp; omega)) (by omega)).mono ?_
           rintro e' w6 ⟨rfl, hc6⟩
           have hA6 := hAr.then0 hc6
           clear hc6)
        | (go_at_call 56
           with_reducible refine (cut_any (sha (dom :: flat ps)) width w6 (sha_length _)).mono ?_
           rintro e' w7 ⟨rfl, hc7⟩
           have hA7 := hA6.then0 hc7
           rw [← HC.out]
           clear hc7)
        | (with_reducible refine at_store rfl ?_
           refine wpList_plain rfl (fun _ hK => wp_storeRow (off := 0) (new := (dc C).toArray) rfl hA7 rfl rfl 2 rfl Hz1.out Hz3.out Hz2.out (fun w8 hA8 => hK _ _ ?_)); clear hK
           replace hA8 : At w [(b4, 5, dc [dom]), (b3, 87, cs2), (b2, 36, splice Z0 0 (dc C))] w8 := hA8
           rw [Hz4.out] at hA8))
      refine bodyPost_ret (results_cell Tryd.results51 hA8 rfl 2 rfl (by rw [HCl.out]; exact row36)) rfl ⟨by rw [HC.out], hA8.clear (fun r hr => ?_)⟩
      simp only [List.mem_cons, List.not_mem_nil, or_false] at hr
      rcases hr with rfl | rfl | rfl <;> simp only <;> omega
end Go.Proofs.YtppmhlkonemebaaDoor
