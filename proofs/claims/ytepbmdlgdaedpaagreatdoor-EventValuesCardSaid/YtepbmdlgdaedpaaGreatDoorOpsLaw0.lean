/- What is laid is taken back: plain facts of bytes. -/
import Derived.Test.YtepbmdlgdaedpaaGreatDoorOctetS
namespace Go.Proofs.YtepbmdlgdaedpaaGreatDoor
open Go.RowKit Go.Dk

theorem be_succ (K n : Nat) : be (K + 1) n = be K (n / 256) ++ [UInt8.ofNat n] := by
  unfold be
  rw [List.range_succ, List.map_append]
  congr 1
  · apply List.map_congr_left
    intro i hi
    have hi := List.mem_range.1 hi
    rw [show K + 1 - 1 - i = (K - 1 - i) + 1 by omega, Nat.pow_succ, Nat.mul_comm, Nat.div_div_eq_div_mul]
  · simp
theorem num_be (K n : Nat) : num (be K n) = n % 256 ^ K := by
  induction K generalizing n with
  | zero => simp [be, num, Nat.mod_one]
  | succ K ih =>
    rw [be_succ, num_snoc, ih, UInt8.toNat_ofNat', show 256 ^ (K + 1) = 256 * 256 ^ K from by rw [Nat.pow_succ, Nat.mul_comm], Nat.mod_mul]
    show n / 256 % 256 ^ K * 256 + n % 256 = _
    omega
theorem num_be_lt {K n : Nat} (h : n < 256 ^ K) : num (be K n) = n := by rw [num_be, Nat.mod_eq_of_lt h]
theorem take_be (K n : Nat) (r : List UInt8) : (be K n ++ r).take K = be K n := List.take_left' (be_length K n)
theorem drop_be (K n : Nat) (r : List UInt8) : (be K n ++ r).drop K = r := List.drop_left' (be_length K n)
theorem numR_be {K n : Nat} (h : n < 256 ^ K) (r : List UInt8) : numR K (be K n ++ r) = .ok n K := by
  rw [numR, if_neg (by rw [List.length_append, be_length]; omega), take_be, num_be_lt h]
theorem sizedR_be {K e : Nat} {s r : List UInt8} {b : Int} (h : s.length < 256 ^ K) (hb : (s.length : Int) ≤ b) : sizedR K e (be K s.length ++ s ++ r) b = .ok s (K + s.length) := by
  rw [List.append_assoc]
  unfold sizedR
  rw [take_be, num_be_lt h, drop_be, List.length_append, be_length, if_neg (by omega), if_neg (by omega), if_neg (by rw [List.length_append]; omega), List.take_left]
theorem flagR_one (b : Bool) (r : List UInt8) : flagR ((if b then 1 else 0) :: r) = .ok b 1 := by
  cases b <;> simp [flagR, num]
theorem rawR_app (p r : List UInt8) : rawR (p ++ r) (p.length : Int) = .ok p p.length := by
  unfold rawR
  rw [if_neg (by rw [List.length_append]; omega), Int.toNat_natCast, List.take_left]
theorem textR_app {s : List UInt8} {most : Int} (h : (s.length : Int) ≤ bnd most 65535) (r : List UInt8) : textR (be 2 s.length ++ s ++ r) most = .ok s (2 + s.length) :=
  sizedR_be (by have := bnd_le most 65535; show s.length < 65536; omega) h
theorem bytesR_app {s : List UInt8} {most : Int} (h : (s.length : Int) ≤ bnd most 2147483647) (r : List UInt8) : bytesR (be 4 s.length ++ s ++ r) most = .ok s (4 + s.length) :=
  sizedR_be (by have := bnd_le most 2147483647; show s.length < 4294967296; omega) h
theorem textsGo_app (each : Int) (ss acc : List (List UInt8)) (at_ : Nat) (r : List UInt8) (h : ∀ j, acc.length ≤ j → j < (acc ++ ss).length → textsAt (acc ++ ss) each j = 0) : textsGo each ss.length acc at_ (tflat ss ++ r) = .ok (acc ++ ss) (at_ + (tflat ss).length) := by
  induction ss generalizing acc at_ with
  | nil => rw [List.length_nil, textsGo, List.append_nil]; rfl
  | cons s ss ih =>
    have h0 := h acc.length (Nat.le_refl _) (by rw [List.length_append, List.length_cons]; omega)
    have hs : (acc ++ s :: ss).getD acc.length [] = s := by rw [List.getD_eq_getElem?_getD, List.getElem?_append_right (Nat.le_refl _), Nat.sub_self]; rfl
    unfold textsAt at h0
    rw [hs] at h0
    have hlen : ¬ bnd each 65535 < (s.length : Int) := fun hh => by rw [if_pos hh] at h0; exact absurd h0 (by decide)
    rw [if_neg hlen] at h0
    have hge : ¬ (0 < acc.length ∧ strB .geq ((acc ++ s :: ss).getD (acc.length - 1) []) s = true) := fun hh => by rw [if_pos hh] at h0; exact absurd h0 (by decide)
    have e : tflat (s :: ss) ++ r = be 2 s.length ++ s ++ (tflat ss ++ r) := by simp [tflat]
    rw [List.length_cons, textsGo, e, textR_app (by omega)]
    simp only
    have hn : ¬ (acc ≠ [] ∧ strB .geq (acc.getLastD []) s = true) := fun hh => hge (by
      have hp : 0 < acc.length := List.length_pos_iff.2 hh.1
      refine ⟨hp, ?_⟩
      have h3 : (acc ++ s :: ss).getD (acc.length - 1) [] = acc.getLastD [] := by
        rw [List.getD_eq_getElem?_getD, List.getElem?_append_left (by omega), List.getLastD_eq_getLast?, List.getLast?_eq_getElem?]
      rw [h3]; exact hh.2)
    have e2 : (be 2 s.length ++ s ++ (tflat ss ++ r)).drop (2 + s.length) = tflat ss ++ r := List.drop_left' (by rw [List.length_append, be_length])
    have e3 : (tflat (s :: ss)).length = 2 + s.length + (tflat ss).length := by simp [tflat, be_length]; omega
    rw [if_neg hn, e2, ih (acc ++ [s]) _ (fun j h1 h2 => by
      have h4 := h j (by rw [List.length_append] at h1; omega) (by simpa using h2)
      rwa [show acc ++ s :: ss = acc ++ [s] ++ ss by simp] at h4), e3]
    rw [show acc ++ [s] ++ ss = acc ++ s :: ss by simp, Nat.add_assoc]
theorem textsR_app {ss : List (List UInt8)} {most each : Int} (h : textsE ss most each = 0) (r : List UInt8) : textsR (textsB ss most each ++ r) most each = .ok ss (textsB ss most each).length ∧ textsB ss most each = be 2 ss.length ++ tflat ss := by
  have hB : textsB ss most each = be 2 ss.length ++ tflat ss := by rw [textsB, if_pos h]
  unfold textsE at h
  split at h
  · exact absurd h (by decide)
  · rename_i h1
    have hb := bnd_le most 65535
    have h2 : ss.length < 256 ^ 2 := by show ss.length < 65536; omega
    have hz := firstE_zero _ _ _ h
    refine ⟨?_, hB⟩
    rw [hB, List.append_assoc]
    unfold textsR
    rw [take_be, num_be_lt h2, drop_be, List.length_append, be_length, if_neg (by omega), if_neg h1]
    have h3 := textsGo_app each ss [] 2 r (fun j _ h5 => by simpa using hz j (Nat.zero_le _) (by simpa using h5))
    rw [List.nil_append] at h3
    rw [h3, List.length_append, be_length]
end Go.Proofs.YtepbmdlgdaedpaaGreatDoor
