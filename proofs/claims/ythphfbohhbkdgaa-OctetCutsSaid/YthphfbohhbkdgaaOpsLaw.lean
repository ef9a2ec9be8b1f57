/- What is laid is taken back: plain facts of bytes. -/
import Derived.Test.YthphfbohhbkdgaaOps
namespace Go.Proofs.Ythphfbohhbkdgaa
open Go.RowKit Go.Dk

theorem be_succ (K n : Nat) : be (K + 1) n = be K (n / 256) ++ [UInt8.ofNat n] := by
  unfold be
  rw [List.range_succ, List.map_append]
  congr 1
  · apply List.map_congr_left
    intro i hi
    have hi := List.mem_range.1 hi
    rw [show K + 1 - 1 - i = (K - 1 - i) + 1 by omega, Nat.pow_succ, Nat.mul_comm, Nat.div_div_eq_div_mul]
  · simp
theorem num_be (K n : Nat) : num (be K n) = n % 256 ^ K := by
  induction K generalizing n with
  | zero => simp [be, num, Nat.mod_one]
  | succ K ih =>
    rw [be_succ, num_snoc, ih, UInt8.toNat_ofNat', show 256 ^ (K + 1) = 256 * 256 ^ K from by rw [Nat.pow_succ, Nat.mul_comm], Nat.mod_mul]
    show n / 256 % 256 ^ K * 256 + n % 256 = _
    omega
theorem num_be_lt {K n : Nat} (h : n < 256 ^ K) : num (be K n) = n := by rw [num_be, Nat.mod_eq_of_lt h]
theorem take_be (K n : Nat) (r : List UInt8) : (be K n ++ r).take K = be K n := List.take_left' (be_length K n)
theorem drop_be (K n : Nat) (r : List UInt8) : (be K n ++ r).drop K = r := List.drop_left' (be_length K n)
theorem numR_be {K n : Nat} (h : n < 256 ^ K) (r : List UInt8) : numR K (be K n ++ r) = .ok n K := by
  rw [numR, if_neg (by rw [List.length_append, be_length]; omega), take_be, num_be_lt h]
theorem sizedR_be {K e : Nat} {s r : List UInt8} {b : Int} (h : s.length < 256 ^ K) (hb : (s.length : Int) ≤ b) : sizedR K e (be K s.length ++ s ++ r) b = .ok s (K + s.length) := by
  rw [List.append_assoc]
  unfold sizedR
  rw [take_be, num_be_lt h, drop_be, List.length_append, be_length, if_neg (by omega), if_neg (by omega), if_neg (by rw [List.length_append]; omega), List.take_left]
theorem flagR_one (b : Bool) (r : List UInt8) : flagR ((if b then 1 else 0) :: r) = .ok b 1 := by
  cases b <;> simp [flagR, num]
theorem rawR_app (p r : List UInt8) : rawR (p ++ r) (p.length : Int) = .ok p p.length := by
  unfold rawR
  rw [if_neg (by rw [List.length_append]; omega), Int.toNat_natCast, List.take_left]
theorem chunks_app (ds : List (List UInt8)) (h : ∀ d ∈ ds, d.length = 32) (r : List UInt8) : chunks ds.length (ds.flatten ++ r) = ds := by
  induction ds with
  | nil => rfl
  | cons d ds ih =>
    have hd := h d (List.mem_cons_self ..)
    have ih := ih (fun e he => h e (List.mem_cons_of_mem _ he))
    unfold chunks at ih ⊢
    rw [List.length_cons, List.range_succ_eq_map, List.map_cons, List.map_map, List.flatten_cons, List.append_assoc]
    congr 1
    · rw [Nat.mul_zero, List.drop_zero, List.take_left' hd]
    · refine Eq.trans (List.map_congr_left fun i _ => ?_) ih
      show ((d ++ (ds.flatten ++ r)).drop (32 * (i + 1))).take 32 = _
      rw [show 32 * (i + 1) = d.length + 32 * i by omega, ← List.drop_drop, List.drop_left]
theorem flatten32 (ds : List (List UInt8)) (h : ∀ d ∈ ds, d.length = 32) : ds.flatten.length = 32 * ds.length := by
  induction ds with
  | nil => rfl
  | cons d ds ih => rw [List.flatten_cons, List.length_append, h d (List.mem_cons_self ..), ih (fun e he => h e (List.mem_cons_of_mem _ he)), List.length_cons]; omega
theorem digestsR_app (ds : List (List UInt8)) (h : ∀ d ∈ ds, d.length = 32) (r : List UInt8) : digestsR (ds.flatten ++ r) (ds.length : Int) = .ok ds ds.flatten.length := by
  have h1 := flatten32 ds h
  unfold digestsR
  rw [if_neg (by rw [List.length_append, h1]; omega), Int.toNat_natCast, chunks_app ds h, h1]
theorem textE_ok {s : List UInt8} {most : Int} (h : textE s most = 0) : (s.length : Int) ≤ bnd most 65535 ∧ textB s most = be 2 s.length ++ s := by
  unfold textE at h
  split at h
  · exact absurd h (by decide)
  · rename_i h1
    exact ⟨by omega, by rw [textB, if_neg h1]⟩
theorem bytesE_ok {s : List UInt8} {most : Int} (h : bytesE s most = 0) : (s.length : Int) ≤ bnd most 2147483647 ∧ bytesB s most = be 4 s.length ++ s := by
  unfold bytesE at h
  split at h
  · exact absurd h (by decide)
  · rename_i h1
    exact ⟨by omega, by rw [bytesB, if_neg h1]⟩
theorem textR_app {s : List UInt8} {most : Int} (h : (s.length : Int) ≤ bnd most 65535) (r : List UInt8) : textR (be 2 s.length ++ s ++ r) most = .ok s (2 + s.length) :=
  sizedR_be (by have := bnd_le most 65535; show s.length < 65536; omega) h
theorem bytesR_app {s : List UInt8} {most : Int} (h : (s.length : Int) ≤ bnd most 2147483647) (r : List UInt8) : bytesR (be 4 s.length ++ s ++ r) most = .ok s (4 + s.length) :=
  sizedR_be (by have := bnd_le most 2147483647; show s.length < 4294967296; omega) h
theorem textsGo_app (each : Int) (ss acc : List (List UInt8)) (at_ : Nat) (r : List UInt8) (h : ∀ j, acc.length ≤ j → j < (acc ++ ss).length → textsAt (acc ++ ss) each j = 0) : textsGo each ss.length acc at_ (tflat ss ++ r) = .ok (acc ++ ss) (at_ + (tflat ss).length) := by
  induction ss generalizing acc at_ with
  | nil => rw [List.length_nil, textsGo, List.append_nil]; rfl
  | cons s ss ih =>
    have h0 := h acc.length (Nat.le_refl _) (by rw [List.length_append, List.length_cons]; omega)
    have hs : (acc ++ s :: ss).getD acc.length [] = s := by rw [List.getD_eq_getElem?_getD, List.getElem?_append_right (Nat.le_refl _), Nat.sub_self]; rfl
    unfold textsAt at h0
    rw [hs] at h0
    have hlen : ¬ bnd each 65535 < (s.length : Int) := fun hh => by rw [if_pos hh] at h0; exact absurd h0 (by decide)
    rw [if_neg hlen] at h0
    have hge : ¬ (0 < acc.length ∧ strB .geq ((acc ++ s :: ss).getD (acc.length - 1) []) s = true) := fun hh => by rw [if_pos hh] at h0; exact absurd h0 (by decide)
    have e : tflat (s :: ss) ++ r = be 2 s.length ++ s ++ (tflat ss ++ r) := by simp [tflat]
    rw [List.length_cons, textsGo, e, textR_app (by omega)]
    simp only
    have hn : ¬ (acc ≠ [] ∧ strB .geq (acc.getLastD []) s = true) := fun hh => hge (by
      have hp : 0 < acc.length := List.length_pos_iff.2 hh.1
      refine ⟨hp, ?_⟩
      have h3 : (acc ++ s :: ss).getD (acc.length - 1) [] = acc.getLastD [] := by
        rw [List.getD_eq_getElem?_getD, List.getElem?_append_left (by omega), List.getLastD_eq_getLast?, List.getLast?_eq_getElem?]
      rw [h3]; exact hh.2)
    have e2 : (be 2 s.length ++ s ++ (tflat ss ++ r)).drop (2 + s.length) = tflat ss ++ r := List.drop_left' (by rw [List.length_append, be_length])
    have e3 : (tflat (s :: ss)).length = 2 + s.length + (tflat ss).length := by simp [tflat, be_length]; omega
    rw [if_neg hn, e2, ih (acc ++ [s]) _ (fun j h1 h2 => by
      have h4 := h j (by rw [List.length_append] at h1; omega) (by simpa using h2)
      rwa [show acc ++ s :: ss = acc ++ [s] ++ ss by simp] at h4), e3]
    rw [show acc ++ [s] ++ ss = acc ++ s :: ss by simp, Nat.add_assoc]
theorem textsR_app {ss : List (List UInt8)} {most each : Int} (h : textsE ss most each = 0) (r : List UInt8) : textsR (textsB ss most each ++ r) most each = .ok ss (textsB ss most each).length ∧ textsB ss most each = be 2 ss.length ++ tflat ss := by
  have hB : textsB ss most each = be 2 ss.length ++ tflat ss := by rw [textsB, if_pos h]
  unfold textsE at h
  split at h
  · exact absurd h (by decide)
  · rename_i h1
    have hb := bnd_le most 65535
    have h2 : ss.length < 256 ^ 2 := by show ss.length < 65536; omega
    have hz := firstE_zero _ _ _ h
    refine ⟨?_, hB⟩
    rw [hB, List.append_assoc]
    unfold textsR
    rw [take_be, num_be_lt h2, drop_be, List.length_append, be_length, if_neg (by omega), if_neg h1]
    have h3 := textsGo_app each ss [] 2 r (fun j _ h5 => by simpa using hz j (Nat.zero_le _) (by simpa using h5))
    rw [List.nil_append] at h3
    rw [h3, List.length_append, be_length]
/-- how many a step takes: as many as it laid -/
def manyX (o : OpX) : OpX := { o with many := if o.kind = 6 then (o.v.ds.length : Int) else (o.v.p.length : Int) }
theorem back1 (o : OpX) (hn : o.v.n < 18446744073709551616) (h32 : ∀ d ∈ o.v.ds, d.length = 32) (hm : o.many = if o.kind = 6 then (o.v.ds.length : Int) else (o.v.p.length : Int)) (hE : laysE o = 0) (r : List UInt8) :
    ∃ v', agR o (laysL o ++ r) = .ok v' (laysL o).length ∧ ∀ o', o'.v = v' → alikeB o o' = true := by
  unfold laysE at hE
  unfold laysL agR alikeB
  by_cases k1 : o.kind = 1
  · simp only [if_pos k1]
    exact ⟨_, by rw [numR_be (by omega), be_length]; rfl, fun o' e => by rw [e]; exact decide_eq_true rfl⟩
  simp only [if_neg k1]
  by_cases k2 : o.kind = 2
  · simp only [if_pos k2]
    exact ⟨_, by rw [numR_be (by omega), be_length]; rfl, fun o' e => by rw [e]; exact decide_eq_true rfl⟩
  simp only [if_neg k2]
  by_cases k3 : o.kind = 3
  · simp only [if_pos k3]
    exact ⟨_, by rw [numR_be (by omega), be_length]; rfl, fun o' e => by rw [e]; exact decide_eq_true rfl⟩
  simp only [if_neg k3]
  by_cases k4 : o.kind = 4
  · simp only [if_pos k4]
    exact ⟨_, by rw [numR_be (by omega), be_length]; rfl, fun o' e => by rw [e]; exact decide_eq_true rfl⟩
  simp only [if_neg k4]
  by_cases k5 : o.kind = 5
  · simp only [if_pos k5]
    exact ⟨_, by rw [List.cons_append, List.nil_append, flagR_one]; rfl, fun o' e => by rw [e]; exact decide_eq_true rfl⟩
  simp only [if_neg k5]
  by_cases k6 : o.kind = 6
  · simp only [if_pos k6]
    rw [if_pos k6] at hm
    exact ⟨_, by rw [hm, digestsR_app _ h32]; rfl, fun o' e => by rw [e]; exact decide_eq_true rfl⟩
  simp only [if_neg k6]
  rw [if_neg k6] at hm
  by_cases k7 : o.kind = 7
  · simp only [if_pos k7]
    exact ⟨_, by rw [hm, rawR_app]; rfl, fun o' e => by rw [e]; exact decide_eq_true rfl⟩
  simp only [if_neg k7]
  by_cases k8 : o.kind = 8
  · have k9 : ¬ o.kind = 9 := by omega
    simp only [if_pos k8, if_neg k9]
    rw [if_pos k8] at hE
    obtain ⟨h1, h2⟩ := textE_ok hE
    exact ⟨_, by rw [h2, textR_app h1, List.length_append, be_length]; rfl, fun o' e => by rw [e]; exact decide_eq_true rfl⟩
  rw [if_neg k8] at hE
  simp only [if_neg k8]
  by_cases k9 : o.kind = 9
  · simp only [if_pos k9]
    rw [if_pos k9] at hE
    obtain ⟨h1, h2⟩ := bytesE_ok hE
    exact ⟨_, by rw [h2, bytesR_app h1, List.length_append, be_length]; rfl, fun o' e => by rw [e]; exact decide_eq_true rfl⟩
  rw [if_neg k9] at hE
  simp only [if_neg k9]
  by_cases k10 : o.kind = 10
  · simp only [if_pos k10]
    rw [if_pos k10] at hE
    obtain ⟨h1, h2⟩ := textsR_app hE r
    exact ⟨_, by rw [h1]; rfl, fun o' e => by rw [e]; exact decide_eq_true rfl⟩
  · simp only [if_neg k10]
    exact ⟨_, rfl, fun _ _ => trivial⟩
theorem lays_none {o : OpX} (h : laysE o ≠ 0) : laysL o = [] := by
  unfold laysE at h
  unfold laysL
  by_cases k8 : o.kind = 8
  · rw [if_pos k8] at h
    simp only [k8]
    unfold textE at h
    split at h
    · rename_i h1; simp [textB, h1]
    · exact absurd rfl h
  rw [if_neg k8] at h
  by_cases k9 : o.kind = 9
  · rw [if_pos k9] at h
    simp only [k9]
    unfold bytesE at h
    split at h
    · rename_i h1; simp [bytesB, h1]
    · exact absurd rfl h
  rw [if_neg k9] at h
  by_cases k10 : o.kind = 10
  · rw [if_pos k10] at h
    simp only [k10]
    simp [textsB, h]
  · rw [if_neg k10] at h; exact absurd rfl h
theorem tflat_size (ss : List (List UInt8)) : (tflat ss).length ≤ 2 * (ss.map (fun p : List UInt8 => p.length + 1)).sum := by
  induction ss with
  | nil => exact Nat.le_refl _
  | cons s ss ih =>
    have e3 : (tflat (s :: ss)).length = 2 + s.length + (tflat ss).length := by simp [tflat, be_length]; omega
    rw [e3, List.map_cons, List.sum_cons]; omega
theorem lays_size (o : OpX) (h32 : ∀ d ∈ o.v.ds, d.length = 32) : vSz o.v ≤ 2 * opCost o ∧ (laysL o).length ≤ 2 * opCost o := by
  have h1 := tflat_size o.v.ss
  have h2 := flatten32 o.v.ds h32
  have h3 : opCost o = 100 + o.v.p.length + o.v.s.length + 32 * o.v.ds.length + (o.ps.map (fun p : Piece => p.2.2.length + 1)).sum + (o.v.ss.map (fun p : List UInt8 => p.length + 1)).sum := rfl
  have h4 : vSz o.v = 8 + o.v.p.length + o.v.s.length + o.v.ds.flatten.length + (tflat o.v.ss).length := rfl
  refine ⟨by omega, ?_⟩
  unfold laysL
  by_cases k1 : o.kind = 1
  · rw [if_pos k1, be_length]; omega
  rw [if_neg k1]
  by_cases k2 : o.kind = 2
  · rw [if_pos k2, be_length]; omega
  rw [if_neg k2]
  by_cases k3 : o.kind = 3
  · rw [if_pos k3, be_length]; omega
  rw [if_neg k3]
  by_cases k4 : o.kind = 4
  · rw [if_pos k4, be_length]; omega
  rw [if_neg k4]
  by_cases k5 : o.kind = 5
  · rw [if_pos k5, List.length_cons, List.length_nil]; omega
  rw [if_neg k5]
  by_cases k6 : o.kind = 6
  · rw [if_pos k6]; omega
  rw [if_neg k6]
  by_cases k7 : o.kind = 7
  · rw [if_pos k7]; omega
  rw [if_neg k7]
  by_cases k8 : o.kind = 8
  · rw [if_pos k8, textB]
    split
    · first | exact Nat.zero_le _ | (rw [List.length_append, be_length]; omega)
    · first | exact Nat.zero_le _ | (rw [List.length_append, be_length]; omega)
  rw [if_neg k8]
  by_cases k9 : o.kind = 9
  · rw [if_pos k9, bytesB]
    split
    · first | exact Nat.zero_le _ | (rw [List.length_append, be_length]; omega)
    · first | exact Nat.zero_le _ | (rw [List.length_append, be_length]; omega)
  rw [if_neg k9]
  by_cases k10 : o.kind = 10
  · rw [if_pos k10, textsB]
    split
    · first | exact Nat.zero_le _ | (rw [List.length_append, be_length]; omega)
    · first | exact Nat.zero_le _ | (rw [List.length_append, be_length]; omega)
  rw [if_neg k10]
  exact Nat.zero_le _
theorem sum_take_le {α : Type} (f : α → Nat) (l : List α) (i : Nat) : ((l.take i).map f).sum ≤ (l.map f).sum := by
  have h : l.map f = (l.take i).map f ++ (l.drop i).map f := by rw [← List.map_append, List.take_append_drop]
  rw [h, List.sum_append]; omega
theorem sum_100 (os : List OpX) : 100 * os.length ≤ (os.map opCost).sum := by
  induction os with
  | nil => exact Nat.le_refl _
  | cons o os ih =>
    have h3 : 100 ≤ opCost o := by unfold opCost; omega
    rw [List.length_cons, List.map_cons, List.sum_cons]; omega
end Go.Proofs.Ythphfbohhbkdgaa
