/- What a sparse proof says: plain functions of lists, and their small laws. No program is walked here. -/
import Derived.Test.YtpomngkcfbnjoaaDoorTab9
import Derived.Test.YtpomngkcfbnjoaaDoorBook0
import Derived.Lib.BitFns
namespace Go.Proofs.YtpomngkcfbnjoaaDoor
open Go Go.RowKit Go.Dk

/-- bit h of a proof's Bits -/
def bitOf (bs : List UInt8) (h : Nat) : Bool := (bAt bs (h / 8)).toNat / 2 ^ (h % 8) % 2 == 1
def bitN (bs : List UInt8) (h : Nat) : Nat := if bitOf bs h then 1 else 0
def onesN (bs : List UInt8) : Nat → Nat
  | 0 => 0
  | h + 1 => onesN bs h + bitN bs h
/-- bit i of a key -/
def keyBit (k : List UInt8) (i : Nat) : Nat := (bAt k (i / 8)).toNat / 2 ^ (7 - i % 8) % 2
structure Prf where
  pr : Bool
  ct : Int
  ch : List UInt8
  bs : List UInt8
  ss : List (List UInt8)
/-- a proof's cells; sv: its digests' slice -/
def Prf.cells (p : Prf) (sv : Value) : List Value := .bool p.pr :: .int .i64 p.ct :: (dc p.ch ++ (dc p.bs ++ [sv]))
structure Prf.OK (p : Prf) : Prop where
  ch : p.ch.length = 32
  bs : p.bs.length = 32
  ss : ∀ d ∈ p.ss, d.length = 32
  few : p.ss.length ≤ 300
def Prf.counted (p : Prf) : Bool := decide (1 ≤ p.ct ∧ p.ct ≤ 1099511627776)
def Prf.blank (p : Prf) : Bool := decide (p.ct = 0 ∧ p.ch = List.replicate 32 0)
def Prf.formed (p : Prf) : Bool := decide (onesN p.bs 256 = p.ss.length) && (if p.pr then p.counted else p.blank)
def Prf.dig (p : Prf) (h : Nat) : List UInt8 := p.ss[onesN p.bs h]?.getD []
def Prf.badAt (p : Prf) (width : Int) (h : Nat) : Bool := bitOf p.bs h && (decide (p.dig h = emptyL width h) || decide (¬ cutL (p.dig h) width = p.dig h))
def Prf.bad (p : Prf) (width : Int) : Nat → Bool
  | 0 => false
  | h + 1 => p.bad width h || p.badAt width h
def Prf.err (p : Prf) (width : Int) : Nat := if p.formed then (if p.bad width 256 then 170 else 0) else 8
def Prf.side (p : Prf) (width : Int) (h : Nat) : List UInt8 := if bitOf p.bs h then p.dig h else emptyL width h
def Prf.text0 (p : Prf) (k : List UInt8) : List UInt8 := if p.pr then 3 :: (k ++ be 8 (c64 p.ct) ++ p.ch) else [5]
def stepT (k d n : List UInt8) (h : Nat) : List UInt8 := 4 :: (if keyBit k (255 - h) = 0 then d ++ n else n ++ d)
def Prf.lead (p : Prf) (width : Int) (k : List UInt8) : Nat → List UInt8
  | 0 => cutL (sha (p.text0 k)) width
  | h + 1 => cutL (sha (stepT k (p.lead width k h) (p.side width h) h)) width
def Prf.text (p : Prf) (width : Int) (k : List UInt8) : Nat → List UInt8
  | 0 => p.text0 k
  | h + 1 => stepT k (p.lead width k h) (p.side width h) h
theorem Prf.lead_eq (p : Prf) (width : Int) (k : List UInt8) (h : Nat) : p.lead width k h = cutL (sha (p.text width k h)) width := by cases h <;> rfl
theorem Prf.lead_length (p : Prf) (width : Int) (k : List UInt8) (h : Nat) : (p.lead width k h).length = 32 := by rw [p.lead_eq]; exact cutL_length _ _ (sha_length _)
def Prf.check (p : Prf) (width : Int) (root k : List UInt8) : Nat := if p.err width = 0 then (if p.lead width k 256 = root then 0 else 171) else p.err width

/-! ### Bits -/
theorem bitN_le (bs : List UInt8) (h : Nat) : bitN bs h ≤ 1 := by unfold bitN; split <;> omega
theorem bitN_of {bs : List UInt8} {h : Nat} (b : bitOf bs h = true) : bitN bs h = 1 := by unfold bitN; rw [b]; rfl
theorem bitN_no {bs : List UInt8} {h : Nat} (b : bitOf bs h = false) : bitN bs h = 0 := by unfold bitN; rw [b]; rfl
theorem onesN_le (bs : List UInt8) (h : Nat) : onesN bs h ≤ h := by
  induction h with
  | zero => exact Nat.le_refl _
  | succ h ih => have := bitN_le bs h; show onesN bs h + bitN bs h ≤ _; omega
theorem onesN_mono (bs : List UInt8) {h k : Nat} (hk : h ≤ k) : onesN bs h ≤ onesN bs k := by
  induction k with
  | zero => rw [show h = 0 by omega]; exact Nat.le_refl _
  | succ k ih =>
    by_cases e : h = k + 1
    · rw [e]; exact Nat.le_refl _
    · have := ih (by omega); show _ ≤ onesN bs k + bitN bs k; omega
theorem onesN_lt {bs : List UInt8} {h k : Nat} (b : bitOf bs h = true) (hk : h < k) : onesN bs h < onesN bs k := by
  have h1 := onesN_mono bs (show h + 1 ≤ k by omega)
  have h2 : onesN bs (h + 1) = onesN bs h + bitN bs h := rfl
  rw [bitN_of b] at h2
  omega
def pop8N (b : UInt8) : Nat := Lib.onesCount b.toNat
theorem pop8N_eq : ∀ n : Fin 256, Lib.onesCount n.val = n.val % 2 + n.val / 2 % 2 + n.val / 4 % 2 + n.val / 8 % 2 + n.val / 16 % 2 + n.val / 32 % 2 + n.val / 64 % 2 + n.val / 128 % 2 := by decide +kernel
theorem bitN_mod (bs : List UInt8) (h : Nat) : bitN bs h = (bAt bs (h / 8)).toNat / 2 ^ (h % 8) % 2 := by
  unfold bitN bitOf
  generalize (bAt bs (h / 8)).toNat / 2 ^ (h % 8) = z
  rcases Nat.mod_two_eq_zero_or_one z with e | e <;> simp [e]
theorem bitN_at (bs : List UInt8) (i j : Nat) (hj : j < 8) : bitN bs (8 * i + j) = (bAt bs i).toNat / 2 ^ j % 2 := by
  rw [bitN_mod, show (8 * i + j) / 8 = i by omega, show (8 * i + j) % 8 = j by omega]
theorem onesN_byte (bs : List UInt8) (i : Nat) : onesN bs (8 * (i + 1)) = onesN bs (8 * i) + pop8N (bAt bs i) := by
  have e : onesN bs (8 * (i + 1)) = onesN bs (8 * i) + bitN bs (8 * i + 0) + bitN bs (8 * i + 1) + bitN bs (8 * i + 2) + bitN bs (8 * i + 3) + bitN bs (8 * i + 4) + bitN bs (8 * i + 5) + bitN bs (8 * i + 6) + bitN bs (8 * i + 7) := by
    rw [show 8 * (i + 1) = 8 * i + 8 by omega]; rfl
  have h1 := pop8N_eq ⟨(bAt bs i).toNat, (bAt bs i).toNat_lt⟩
  unfold pop8N
  rw [e, bitN_at bs i 0 (by decide), bitN_at bs i 1 (by decide), bitN_at bs i 2 (by decide), bitN_at bs i 3 (by decide), bitN_at bs i 4 (by decide), bitN_at bs i 5 (by decide), bitN_at bs i 6 (by decide), bitN_at bs i 7 (by decide)]
  simp only [Nat.reducePow, Nat.div_one] at h1 ⊢
  rw [h1]
  simp only [Nat.add_assoc]
theorem pop8_le8 : ∀ n : Fin 256, Lib.onesCount n.val ≤ 8 := by decide +kernel
theorem pop8N_le (b : UInt8) : pop8N b ≤ 8 := pop8_le8 ⟨b.toNat, b.toNat_lt⟩
theorem keyBit_cases (k : List UInt8) (i : Nat) : keyBit k i = 0 ∨ keyBit k i = 1 := by unfold keyBit; exact Nat.mod_two_eq_zero_or_one _
/-- a byte's bit, taken by a shift -/
theorem shr_byte (b : UInt8) (j : Nat) (hj : j < 8) : (b.toNat : Int).fdiv (2 ^ min (j : Int).toNat IntKind.u8.bits) = ((b.toNat / 2 ^ j : Nat) : Int) := by
  rw [show IntKind.u8.bits = 8 from rfl, show min (j : Int).toNat 8 = j by omega, Int.fdiv_eq_ediv_of_nonneg _ (Int.pow_nonneg (by decide))]
  rw [show ((2 : Int) ^ j) = ((2 ^ j : Nat) : Int) by rw [Int.natCast_pow]; rfl]
  rfl
theorem and1_u8 : ∀ n : Fin 256, bits .and .u8 (n.val : Int) 1 = ((n.val % 2 : Nat) : Int) := by decide +kernel
theorem and1_i64 : ∀ n : Fin 256, bits .and .i64 (n.val : Int) 1 = ((n.val % 2 : Nat) : Int) := by decide +kernel
theorem byte_div_lt (b : UInt8) (j : Nat) : b.toNat / 2 ^ j < 256 := Nat.lt_of_le_of_lt (Nat.div_le_self ..) b.toNat_lt
theorem bit_and (bs : List UInt8) (h : Nat) : bits .and .u8 (((bAt bs (h / 8)).toNat / 2 ^ (h % 8) : Nat) : Int) 1 = (bitN bs h : Int) := by
  rw [bitN_mod]; exact and1_u8 ⟨_, byte_div_lt _ _⟩
theorem key_and (k : List UInt8) (i : Nat) : bits .and .i64 (((bAt k (i / 8)).toNat / 2 ^ (7 - i % 8) : Nat) : Int) 1 = (keyBit k i : Int) := and1_i64 ⟨_, byte_div_lt _ _⟩

/-! ### A proof's cells -/
section
variable {p : Prf} {sv : Value}
theorem Prf.c_len (hp : p.OK) : (p.cells sv).length = 67 := by
  unfold Prf.cells
  simp only [List.length_cons, List.length_append, dc_length, hp.ch, hp.bs, List.length_nil]
theorem Prf.c_ent (hp : p.OK) : ((p.cells sv).drop 1).take 33 = .int .i64 p.ct :: dc p.ch := by
  unfold Prf.cells
  show (Value.int .i64 p.ct :: (dc p.ch ++ (dc p.bs ++ [sv]))).take (32 + 1) = _
  rw [List.take_succ_cons, List.take_left' (by rw [dc_length, hp.ch])]
theorem Prf.c_bits (hp : p.OK) : ((p.cells sv).drop 34).take 32 = dc p.bs := by
  unfold Prf.cells
  show ((dc p.ch ++ (dc p.bs ++ [sv])).drop 32).take 32 = _
  rw [List.drop_left' (by rw [dc_length, hp.ch]), List.take_left' (by rw [dc_length, hp.bs])]
theorem Prf.c_bit (hp : p.OK) {i : Nat} (hi : i < 32) : (p.cells sv)[34 + i]? = some (.int .u8 ((bAt p.bs i).toNat : Int)) := by
  have h1 : (((p.cells sv).drop 34).take 32)[i]? = some (.int .u8 ((bAt p.bs i).toNat : Int)) := by rw [Prf.c_bits hp]; exact dc_at (by rw [hp.bs]; exact hi)
  rwa [List.getElem?_take, if_pos hi, List.getElem?_drop] at h1
theorem Prf.c_sums (hp : p.OK) : (p.cells sv)[66]? = some sv := by
  unfold Prf.cells
  show (dc p.ch ++ (dc p.bs ++ [sv]))[64]? = _
  rw [List.getElem?_append_right (by rw [dc_length, hp.ch]; decide), dc_length, hp.ch, List.getElem?_append_right (by rw [dc_length, hp.bs]; decide), dc_length, hp.bs]
  rfl
theorem Prf.c_chain (hp : p.OK) : ((p.cells sv).drop 2).take 32 = dc p.ch := by
  unfold Prf.cells
  show ((dc p.ch ++ (dc p.bs ++ [sv])).take 32) = _
  rw [List.take_left' (by rw [dc_length, hp.ch])]
theorem Prf.c_all (hp : p.OK) : ((p.cells sv).drop 0).take 67 = p.cells sv := by rw [List.drop_zero]; exact List.take_of_length_le (by rw [Prf.c_len hp]; decide)
theorem Prf.c_one (hsv : sv.oneCell' = true) : ∀ v ∈ p.cells sv, v.oneCell' = true := by
  unfold Prf.cells
  intro v hv
  simp only [List.mem_cons, List.mem_append, List.not_mem_nil, or_false] at hv
  rcases hv with rfl | rfl | h | h | rfl
  · rfl
  · rfl
  · exact dc_one _ v h
  · exact dc_one _ v h
  · exact hsv
theorem Prf.c_set (hp : p.OK) (u : Value) : (p.cells sv).set 66 u = p.cells u := by
  unfold Prf.cells
  show .bool p.pr :: .int .i64 p.ct :: ((dc p.ch ++ (dc p.bs ++ [sv])).set 64 u) = _
  rw [List.set_append, if_neg (by rw [dc_length, hp.ch]; decide), List.set_append, if_neg (by rw [dc_length, dc_length, hp.ch, hp.bs]; decide), dc_length, dc_length, hp.ch, hp.bs]
  rfl
end
theorem quo8 (i : Nat) (hi : i < 256) : IntKind.i64.wrap ((i : Int).tdiv 8) = ((i / 8 : Nat) : Int) := by
  rw [Int.tdiv_eq_ediv_of_nonneg (by omega), IntWalk.i64_in _ (by omega)]; omega
theorem rem8 (i : Nat) : (i : Int).tmod 8 = ((i % 8 : Nat) : Int) := by rw [Int.tmod_eq_emod_of_nonneg (by omega)]; omega
theorem rem2n (n : Nat) : (n : Int).tmod 2 = ((n % 2 : Nat) : Int) := by rw [Int.tmod_eq_emod_of_nonneg (by omega)]; omega
theorem wrap_lt {n : Nat} (h : n < 256) : IntKind.i64.wrap (n : Int) = (n : Int) := IntWalk.i64_in _ (by omega)
theorem shr_key (b : UInt8) (i : Nat) : (b.toNat : Int).fdiv (2 ^ min ((7 : Int) - ((i % 8 : Nat) : Int)).toNat IntKind.u8.bits) = ((b.toNat / 2 ^ (7 - i % 8) : Nat) : Int) := by
  rw [show ((7 : Int) - ((i % 8 : Nat) : Int)) = ((7 - i % 8 : Nat) : Int) by omega]
  exact shr_byte b _ (by omega)
theorem shl_all : ∀ j : Fin 8, IntKind.i64.wrap (1 * 2 ^ min ((j.val : Int)).toNat IntKind.i64.bits) = ((2 ^ j.val : Nat) : Int) := by decide +kernel
theorem shl_key (i : Nat) : IntKind.i64.wrap (1 * 2 ^ min ((7 : Int) - ((i % 8 : Nat) : Int)).toNat IntKind.i64.bits) = ((2 ^ (7 - i % 8) : Nat) : Int) := by
  rw [show ((7 : Int) - ((i % 8 : Nat) : Int)) = ((7 - i % 8 : Nat) : Int) by omega]
  exact shl_all ⟨7 - i % 8, by omega⟩
theorem shl_bit (i : Nat) : IntKind.i64.wrap (1 * 2 ^ min (((i % 8 : Nat) : Int)).toNat IntKind.i64.bits) = ((2 ^ (i % 8) : Nat) : Int) := shl_all ⟨i % 8, by omega⟩
theorem pow_ne (j : Nat) : ((2 ^ j : Nat) : Int) ≠ 0 := by have := Nat.two_pow_pos j; omega
theorem quo_pow (b : UInt8) (j : Nat) : IntKind.i64.wrap ((b.toNat : Int).tdiv ((2 ^ j : Nat) : Int)) = ((b.toNat / 2 ^ j : Nat) : Int) := by
  rw [Int.tdiv_eq_ediv_of_nonneg (by omega), ← Int.natCast_ediv]
  exact wrap_lt (byte_div_lt b j)
theorem eq1_bit (bs : List UInt8) (h : Nat) : cmpB .eql (((bAt bs (h / 8)).toNat / 2 ^ (h % 8) % 2 : Nat) : Int) 1 = bitOf bs h := by
  unfold bitOf cmpB
  generalize (bAt bs (h / 8)).toNat / 2 ^ (h % 8) % 2 = z
  by_cases e : z = 1
  · subst e; rfl
  · rw [show (z == 1) = false by simpa using e]
    exact decide_eq_false (by omega)
theorem eq0_bit (bs : List UInt8) (h : Nat) : cmpB .eql (bitN bs h : Int) 0 = !bitOf bs h := by
  unfold bitN cmpB
  cases bitOf bs h <;> rfl

/-! ### Rows -/
theorem Prf.formed_ones {p : Prf} (h : p.formed = true) : onesN p.bs 256 = p.ss.length := by
  unfold Prf.formed at h
  simp only [Bool.and_eq_true, decide_eq_true_eq] at h
  exact h.1
theorem Prf.dig_at {p : Prf} (hf : p.formed = true) {h : Nat} (b : bitOf p.bs h = true) (hh : h < 256) : onesN p.bs h < p.ss.length ∧ p.ss[onesN p.bs h]? = some (p.dig h) := by
  have h1 := onesN_lt b hh
  rw [p.formed_ones hf] at h1
  refine ⟨h1, ?_⟩
  unfold Prf.dig
  rw [List.getElem?_eq_getElem h1]; rfl
theorem Prf.dig_length {p : Prf} (hp : p.OK) (hf : p.formed = true) {h : Nat} (b : bitOf p.bs h = true) (hh : h < 256) : (p.dig h).length = 32 :=
  hp.ss _ (List.mem_of_getElem? (p.dig_at hf b hh).2)
theorem Prf.side_length {p : Prf} (hp : p.OK) (hf : p.formed = true) (width : Int) {h : Nat} (hh : h < 256) : (p.side width h).length = 32 := by
  unfold Prf.side
  split
  · rename_i b; exact p.dig_length hp hf b hh
  · exact emptyL_length _ _
/-- what stands beside, as far as the rows are gone through -/
def Prf.row (p : Prf) (width : Int) (n i : Nat) : List UInt8 := if i < n then p.side width i else emptyL width i
theorem Prf.row0 (p : Prf) (width : Int) : p.row width 0 = emptyL width := by funext i; unfold Prf.row; rw [if_neg (Nat.not_lt_zero _)]
theorem Prf.row_no {p : Prf} {width : Int} {h : Nat} (b : bitOf p.bs h = false) : p.row width (h + 1) = p.row width h := by
  funext i
  unfold Prf.row
  by_cases e : i = h
  · subst e; rw [if_pos (by omega), if_neg (by omega)]; unfold Prf.side; rw [b]; rfl
  · by_cases e2 : i < h
    · rw [if_pos (by omega), if_pos e2]
    · rw [if_neg (by omega), if_neg e2]
theorem Prf.row_at (p : Prf) (width : Int) (h : Nat) : p.row width h h = emptyL width h := by unfold Prf.row; rw [if_neg (by omega)]
theorem Prf.row_length {p : Prf} (hp : p.OK) (hf : p.formed = true) (width : Int) {n : Nat} (hn : n ≤ 256) (i : Nat) : (p.row width n i).length = 32 := by
  unfold Prf.row
  split
  · exact p.side_length hp hf width (by omega)
  · exact emptyL_length _ _
theorem digs_map (f : Nat → List UInt8) (n : Nat) : digs f n = cel dc ((List.range n).map f) := by
  unfold digs cel
  rw [List.map_map, List.flatMap_def]; rfl
theorem digs_setD {f g : Nat → List UInt8} {n h : Nat} (hf : ∀ i, i < n → (f i).length = 32) (hh : h < n) (hd : (g h).length = 32) (hg : ∀ i, i ≠ h → g i = f i) (Z : List Value) : splice (digs f n ++ Z) (h * 32) (dc (g h)) = digs g n ++ Z := by
  have hl : (digs f n).length = n * 32 := by rw [digs_map, cel_len (sz := 32) (fun x hx => by obtain ⟨i, hi, rfl⟩ := List.mem_map.1 hx; rw [dc_length]; exact hf i (List.mem_range.1 hi)), List.length_map, List.length_range]
  have e1 : splice (digs f n) (h * 32) (dc (g h)) = digs g n := by
    rw [digs_map, digs_map, cel_set (sz := 32) (fun x hx => by obtain ⟨i, hi, rfl⟩ := List.mem_map.1 hx; rw [dc_length]; exact hf i (List.mem_range.1 hi)) (by rw [List.length_map, List.length_range]; exact hh) (by rw [dc_length]; exact hd)]
    congr 1
    apply List.ext_getElem?
    intro i
    rw [List.getElem?_set, List.length_map, List.length_range]
    by_cases e : h = i
    · subst e
      rw [if_pos rfl, if_pos hh, List.getElem?_map, List.getElem?_range hh]; rfl
    · rw [if_neg e]
      by_cases hi : i < n
      · rw [List.getElem?_map, List.getElem?_map, List.getElem?_range hi]
        simp only [Option.map_some, hg i (fun x => e x.symm)]
      · rw [List.getElem?_eq_none (by rw [List.length_map, List.length_range]; omega), List.getElem?_eq_none (by rw [List.length_map, List.length_range]; omega)]
  rw [← e1]
  unfold splice
  rw [dc_length, hd, List.take_append_of_le_length (by omega), List.drop_append_of_le_length (by omega)]
  simp only [List.append_assoc]
theorem Prf.row_put {p : Prf} (hp : p.OK) (hf : p.formed = true) (width : Int) {h : Nat} (b : bitOf p.bs h = true) (hh : h < 256) (n : Nat) (hn : h < n) (Z : List Value) : splice (digs (p.row width h) n ++ Z) (h * 32) (dc (p.dig h)) = digs (p.row width (h + 1)) n ++ Z := by
  have e : p.row width (h + 1) h = p.dig h := by unfold Prf.row; rw [if_pos (by omega)]; unfold Prf.side; rw [b]; rfl
  have h1 := digs_setD (f := p.row width h) (g := p.row width (h + 1)) (n := n) (h := h) (fun i _ => p.row_length hp hf width (by omega) i) hn (by rw [e]; exact p.dig_length hp hf b hh) (fun i hi => by
    unfold Prf.row
    by_cases e2 : i < h
    · rw [if_pos (by omega), if_pos e2]
    · rw [if_neg (by omega), if_neg e2]) Z
  rwa [e] at h1
theorem Prf.bad_stop {p : Prf} {width : Int} {h : Nat} (hb : p.badAt width h = true) (hh : h < 256) : p.bad width 256 = true := by
  have h1 : ∀ k, h < k → p.bad width k = true := by
    intro k hk
    induction k with
    | zero => omega
    | succ k ih =>
      show (p.bad width k || p.badAt width k) = true
      by_cases e : h = k
      · subst e; rw [hb, Bool.or_true]
      · rw [ih (by omega)]; rfl
  exact h1 256 hh
/-- the bytes behind the width -/
theorem cut_fix {D : List UInt8} (hD : D.length = 32) (width : Int) : cutL D width = D ↔ ∀ b, kept width ≤ b → b < 32 → bAt D b = 0 := by
  have hk := kept_le width
  constructor
  · intro h b h1 h2
    rw [← h]
    unfold cutL bAt
    rw [List.getElem?_append_right (by rw [List.length_take, hD]; omega), List.length_take, hD, Nat.min_eq_left hk, List.getElem?_replicate, if_pos (by omega)]
    rfl
  · intro h
    apply List.ext_getElem?
    intro i
    unfold cutL
    by_cases h1 : i < kept width
    · rw [List.getElem?_append_left (by rw [List.length_take, hD]; omega), List.getElem?_take, if_pos h1]
    · rw [List.getElem?_append_right (by rw [List.length_take, hD]; omega), List.length_take, hD, Nat.min_eq_left hk, List.getElem?_replicate]
      by_cases h2 : i < 32
      · have h3 := h i (by omega) h2
        unfold bAt at h3
        rw [if_pos (by omega)]
        rw [List.getElem?_eq_getElem (by omega)] at h3 ⊢
        rw [← h3]; rfl
      · rw [if_neg (by omega), List.getElem?_eq_none (by omega)]
end Go.Proofs.YtpomngkcfbnjoaaDoor
