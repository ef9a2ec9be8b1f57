/- A digest carried up through empty rows; the digest of a row of items, from above. No program is walked here. -/
import Derived.Test.YtpomngkcfbnjoaaDoorSp2
import Derived.Test.YtpomngkcfbnjoaaDoorRx
namespace Go.Proofs.YtpomngkcfbnjoaaDoor
open Go Go.RowKit Go.Dk
structure Itm where
  k : List UInt8
  ct : Int
  ch : List UInt8
abbrev Itm.ent (i : Itm) : List Value := .int .i64 i.ct :: dc i.ch
def Itm.cells (i : Itm) : List Value := dc i.k ++ i.ent
structure Itm.OK (i : Itm) : Prop where
  k : i.k.length = 32
  ch : i.ch.length = 32
theorem Itm.len {i : Itm} (h : i.OK) : i.cells.length = 65 := by
  unfold Itm.cells Itm.ent
  rw [List.length_append, List.length_cons, dc_length, dc_length, h.k, h.ch]
theorem Itm.c_key {i : Itm} (h : i.OK) : i.cells.take 32 = dc i.k := by unfold Itm.cells; exact List.take_left' (by rw [dc_length, h.k])
theorem Itm.c_ent {i : Itm} (h : i.OK) : (i.cells.drop 32).take 33 = i.ent := by
  unfold Itm.cells
  rw [List.drop_left' (by rw [dc_length, h.k]), List.take_of_length_le]
  unfold Itm.ent; rw [List.length_cons, dc_length, h.ch]; exact Nat.le_refl _
def entryD (width : Int) (i : Itm) : List UInt8 := ofL width 3 (i.k ++ be 8 (c64 i.ct) ++ i.ch)
theorem entryD_length (width : Int) (i : Itm) : (entryD width i).length = 32 := cutL_length _ _ (sha_length _)
theorem branchL_length (width : Int) (X Y : List UInt8) : (branchL width X Y).length = 32 := cutL_length _ _ (sha_length _)
/-- one row up: n stands beside -/
def sideD (width : Int) (k d n : List UInt8) (h : Nat) : List UInt8 := if keyBit k (255 - h) = 0 then branchL width d n else branchL width n d
theorem sideD_length (width : Int) (k d n : List UInt8) (h : Nat) : (sideD width k d n h).length = 32 := by unfold sideD; split <;> exact branchL_length ..
def liftD (width : Int) (k d : List UInt8) (h0 : Nat) : Nat → List UInt8
  | 0 => d
  | m + 1 => sideD width k (liftD width k d h0 m) (emptyL width (h0 + m)) (h0 + m)
theorem liftD_length {width : Int} {k d : List UInt8} (hd : d.length = 32) (h0 m : Nat) : (liftD width k d h0 m).length = 32 := by
  cases m with
  | zero => exact hd
  | succ m => exact sideD_length ..
def zeroBit (j : Nat) (i : Itm) : Bool := decide (keyBit i.k j = 0)
/-- the subtree of these items at the height h -/
def subD (width : Int) : Nat → List Itm → List UInt8
  | _, [] => emptyL width 0
  | 0, i :: _ => entryD width i
  | h + 1, i :: l => branchL width (if ((i :: l).takeWhile (zeroBit (255 - h))) = [] then emptyL width h else subD width h ((i :: l).takeWhile (zeroBit (255 - h)))) (if ((i :: l).dropWhile (zeroBit (255 - h))) = [] then emptyL width h else subD width h ((i :: l).dropWhile (zeroBit (255 - h))))
/-- .. an empty one told by its height -/
def subE (width : Int) (h : Nat) (l : List Itm) : List UInt8 := if l = [] then emptyL width h else subD width h l
theorem subE_nil (width : Int) (h : Nat) : subE width h [] = emptyL width h := by unfold subE; rw [if_pos rfl]
theorem subE_zero (width : Int) (i : Itm) (l : List Itm) : subE width 0 (i :: l) = entryD width i := by unfold subE; rw [if_neg (by simp)]; rfl
theorem subE_succ (width : Int) (h : Nat) (i : Itm) (l : List Itm) : subE width (h + 1) (i :: l) = branchL width (subE width h ((i :: l).takeWhile (zeroBit (255 - h)))) (subE width h ((i :: l).dropWhile (zeroBit (255 - h)))) := by
  unfold subE
  rw [if_neg (by simp)]
  rfl
/-- a node that holds one key -/
def leafC (i : Itm) : List Value := dc i.k ++ (i.ent ++ ([.int .i64 1, .int .i64 256, .pointer none, .pointer none] ++ List.replicate 64 (.int .u8 0)))
theorem leafC_len {i : Itm} (h : i.OK) : (leafC i).length = 133 := by
  unfold leafC Itm.ent
  simp only [List.length_append, List.length_cons, dc_length, h.k, h.ch, List.length_nil, List.length_replicate]
theorem leafC_key {i : Itm} (h : i.OK) : ((leafC i).drop 0).take 32 = dc i.k := by unfold leafC; rw [List.drop_zero]; exact List.take_left' (by rw [dc_length, h.k])
theorem leafC_ent {i : Itm} (h : i.OK) : ((leafC i).drop 32).take 33 = i.ent := by
  unfold leafC
  rw [List.drop_left' (by rw [dc_length, h.k])]
  exact List.take_left' (by unfold Itm.ent; rw [List.length_cons, dc_length, h.ch])
theorem leafC_at {i : Itm} (h : i.OK) (j : Nat) : (leafC i)[65 + j]? = ([.int .i64 1, .int .i64 256, .pointer none, .pointer none] ++ List.replicate 64 (.int .u8 0))[j]? := by
  unfold leafC
  have h2 : i.ent.length = 33 := by unfold Itm.ent; rw [List.length_cons, dc_length, h.ch]
  rw [List.getElem?_append_right (by rw [dc_length, h.k]; omega), dc_length, h.k, List.getElem?_append_right (by rw [h2]; omega), h2]
  congr 1
  omega
theorem leafC_bit {i : Itm} (h : i.OK) : (leafC i)[66]? = some (.int .i64 256) := leafC_at h 1
/-- what a digest is worked out with: the width, the empty rows' digests, the end's function -/
def Sm (w0 : World) (R : List Seg) (f : FuncId) (g : Nat) (width : Int) : Prop := ∃ A c wb, Rw w0 R g [.int .i64 width, .slice A 257 c, .func (.func f) #[] #[.pointer (some ⟨wb, 0, none⟩)]] ∧ Rw w0 R wb [.int .i64 width] ∧ Rc w0 R A (digs (emptyL width) 257)
theorem Sm.mono {w0 : World} {R S : List Seg} {f : FuncId} {g : Nat} {width : Int} (h : Sm w0 R f g width) (hs : R ⊆ S) : Sm w0 S f g width := by
  obtain ⟨A, c, wb, h1, h2, h3⟩ := h
  exact ⟨A, c, wb, h1.mono hs, h2.mono hs, h3.mono hs⟩
end Go.Proofs.YtpomngkcfbnjoaaDoor
