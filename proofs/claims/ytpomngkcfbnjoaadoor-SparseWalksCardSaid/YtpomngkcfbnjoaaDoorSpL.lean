/- What a sparse proof says: plain functions of lists, and their small laws. No program is walked here. -/
import Derived.Test.YtpomngkcfbnjoaaDoorTab9
import Derived.Test.YtpomngkcfbnjoaaDoorBook0
import Derived.Lib.BitFns
namespace Go.Proofs.YtpomngkcfbnjoaaDoor
open Go Go.RowKit Go.Dk

/-- bit h of a proof's Bits -/
def bitOf (bs : List UInt8) (h : Nat) : Bool := (bAt bs (h / 8)).toNat / 2 ^ (h % 8) % 2 == 1
def bitN (bs : List UInt8) (h : Nat) : Nat := if bitOf bs h then 1 else 0
def onesN (bs : List UInt8) : Nat → Nat
  | 0 => 0
  | h + 1 => onesN bs h + bitN bs h
/-- bit i of a key -/
def keyBit (k : List UInt8) (i : Nat) : Nat := (bAt k (i / 8)).toNat / 2 ^ (7 - i % 8) % 2
structure Prf where
  pr : Bool
  ct : Int
  ch : List UInt8
  bs : List UInt8
  ss : List (List UInt8)
/-- a proof's cells; sv: its digests' slice -/
def Prf.cells (p : Prf) (sv : Value) : List Value := .bool p.pr :: .int .i64 p.ct :: (dc p.ch ++ (dc p.bs ++ [sv]))
structure Prf.OK (p : Prf) : Prop where
  ch : p.ch.length = 32
  bs : p.bs.length = 32
  ss : ∀ d ∈ p.ss, d.length = 32
  few : p.ss.length ≤ 300
def Prf.counted (p : Prf) : Bool := decide (1 ≤ p.ct ∧ p.ct ≤ 1099511627776)
def Prf.blank (p : Prf) : Bool := decide (p.ct = 0 ∧ p.ch = List.replicate 32 0)
def Prf.formed (p : Prf) : Bool := decide (onesN p.bs 256 = p.ss.length) && (if p.pr then p.counted else p.blank)
def Prf.dig (p : Prf) (h : Nat) : List UInt8 := p.ss[onesN p.bs h]?.getD []
def Prf.badAt (p : Prf) (width : Int) (h : Nat) : Bool := bitOf p.bs h && (decide (p.dig h = emptyL width h) || decide (¬ cutL (p.dig h) width = p.dig h))
def Prf.bad (p : Prf) (width : Int) : Nat → Bool
  | 0 => false
  | h + 1 => p.bad width h || p.badAt width h
def Prf.err (p : Prf) (width : Int) : Nat := if p.formed then (if p.bad width 256 then 170 else 0) else 8
def Prf.side (p : Prf) (width : Int) (h : Nat) : List UInt8 := if bitOf p.bs h then p.dig h else emptyL width h
def Prf.text0 (p : Prf) (k : List UInt8) : List UInt8 := if p.pr then 3 :: (k ++ be 8 (c64 p.ct) ++ p.ch) else [5]
def stepT (k d n : List UInt8) (h : Nat) : List UInt8 := 4 :: (if keyBit k (255 - h) = 0 then d ++ n else n ++ d)
def Prf.lead (p : Prf) (width : Int) (k : List UInt8) : Nat → List UInt8
  | 0 => cutL (sha (p.text0 k)) width
  | h + 1 => cutL (sha (stepT k (p.lead width k h) (p.side width h) h)) width
def Prf.text (p : Prf) (width : Int) (k : List UInt8) : Nat → List UInt8
  | 0 => p.text0 k
  | h + 1 => stepT k (p.lead width k h) (p.side width h) h
def Prf.check (p : Prf) (width : Int) (root k : List UInt8) : Nat := if p.err width = 0 then (if p.lead width k 256 = root then 0 else 171) else p.err width

/-! ### Bits -/
theorem keyBit_cases (k : List UInt8) (i : Nat) : keyBit k i = 0 ∨ keyBit k i = 1 := by unfold keyBit; exact Nat.mod_two_eq_zero_or_one _
/-- a byte's bit, taken by a shift -/
theorem shr_byte (b : UInt8) (j : Nat) (hj : j < 8) : (b.toNat : Int).fdiv (2 ^ min (j : Int).toNat IntKind.u8.bits) = ((b.toNat / 2 ^ j : Nat) : Int) := by
  rw [show IntKind.u8.bits = 8 from rfl, show min (j : Int).toNat 8 = j by omega, Int.fdiv_eq_ediv_of_nonneg _ (Int.pow_nonneg (by decide))]
  rw [show ((2 : Int) ^ j) = ((2 ^ j : Nat) : Int) by rw [Int.natCast_pow]; rfl]
  rfl
theorem and1_i64 : ∀ n : Fin 256, bits .and .i64 (n.val : Int) 1 = ((n.val % 2 : Nat) : Int) := by decide +kernel
theorem byte_div_lt (b : UInt8) (j : Nat) : b.toNat / 2 ^ j < 256 := Nat.lt_of_le_of_lt (Nat.div_le_self ..) b.toNat_lt
theorem key_and (k : List UInt8) (i : Nat) : bits .and .i64 (((bAt k (i / 8)).toNat / 2 ^ (7 - i % 8) : Nat) : Int) 1 = (keyBit k i : Int) := and1_i64 ⟨_, byte_div_lt _ _⟩

/-! ### A proof's cells -/
section
variable {p : Prf} {sv : Value}
theorem Prf.c_ent (hp : p.OK) : ((p.cells sv).drop 1).take 33 = .int .i64 p.ct :: dc p.ch := by
  unfold Prf.cells
  show (Value.int .i64 p.ct :: (dc p.ch ++ (dc p.bs ++ [sv]))).take (32 + 1) = _
  rw [List.take_succ_cons, List.take_left' (by rw [dc_length, hp.ch])]
end
theorem quo8 (i : Nat) (hi : i < 256) : IntKind.i64.wrap ((i : Int).tdiv 8) = ((i / 8 : Nat) : Int) := by
  rw [Int.tdiv_eq_ediv_of_nonneg (by omega), IntWalk.i64_in _ (by omega)]; omega
theorem rem8 (i : Nat) : (i : Int).tmod 8 = ((i % 8 : Nat) : Int) := by rw [Int.tmod_eq_emod_of_nonneg (by omega)]; omega
theorem wrap_lt {n : Nat} (h : n < 256) : IntKind.i64.wrap (n : Int) = (n : Int) := IntWalk.i64_in _ (by omega)
theorem shr_key (b : UInt8) (i : Nat) : (b.toNat : Int).fdiv (2 ^ min ((7 : Int) - ((i % 8 : Nat) : Int)).toNat IntKind.u8.bits) = ((b.toNat / 2 ^ (7 - i % 8) : Nat) : Int) := by
  rw [show ((7 : Int) - ((i % 8 : Nat) : Int)) = ((7 - i % 8 : Nat) : Int) by omega]
  exact shr_byte b _ (by omega)
/-! ### Rows -/
/-- what stands beside, as far as the rows are gone through -/
def Prf.row (p : Prf) (width : Int) (n i : Nat) : List UInt8 := if i < n then p.side width i else emptyL width i
theorem digs_map (f : Nat → List UInt8) (n : Nat) : digs f n = cel dc ((List.range n).map f) := by
  unfold digs cel
  rw [List.map_map, List.flatMap_def]; rfl
end Go.Proofs.YtpomngkcfbnjoaaDoor
