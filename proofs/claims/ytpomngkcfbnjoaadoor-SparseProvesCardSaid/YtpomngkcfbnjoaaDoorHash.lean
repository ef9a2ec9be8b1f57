/- What a hasher holds when it has taken a text; blocks; plain laws. -/
import Derived.Test.YtpomngkcfbnjoaaDoorBytes
import Derived.Test.YtpomngkcfbnjoaaDoorSha
namespace Go.Dk
open Go
theorem add32_lt (a b : Nat) : add32 a b < 4294967296 := Nat.mod_lt _ (by decide)
theorem compress_length (st : List Nat) (bs : List UInt8) : (compress st bs).length = 8 := by simp [compress]
theorem compress_lt (st : List Nat) (bs : List UInt8) : ∀ x ∈ compress st bs, x < 4294967296 := by
  intro x hx
  simp only [compress, List.mem_map] at hx
  obtain ⟨i, _, rfl⟩ := hx
  exact add32_lt _ _
theorem blocks_length (n : Nat) (st : List Nat) (bs : List UInt8) (h : st.length = 8) : (blocks n st bs).length = 8 := by
  induction n generalizing st bs with
  | zero => exact h
  | succ n ih => exact ih _ _ (compress_length _ _)
theorem blocks_lt (n : Nat) (st : List Nat) (bs : List UInt8) (h : ∀ x ∈ st, x < 4294967296) : ∀ x ∈ blocks n st bs, x < 4294967296 := by
  induction n generalizing st bs with
  | zero => exact h
  | succ n ih => exact ih _ _ (compress_lt _ _)
theorem blocks_end (n : Nat) (st : List Nat) (bs : List UInt8) : blocks (n + 1) st bs = compress (blocks n st bs) ((bs.drop (64 * n)).take 64) := by
  induction n generalizing st bs with
  | zero => simp [blocks]
  | succ n ih =>
    have h1 : blocks (n + 1 + 1) st bs = blocks (n + 1) (compress st (bs.take 64)) (bs.drop 64) := rfl
    have h2 : blocks (n + 1) st bs = blocks n (compress st (bs.take 64)) (bs.drop 64) := rfl
    rw [h1, ih, h2, List.drop_drop, show 64 + 64 * n = 64 * (n + 1) by omega]
theorem blocks_prefix (n : Nat) (st : List Nat) (a b : List UInt8) (h : 64 * n ≤ a.length) : blocks n st (a ++ b) = blocks n st a := by
  induction n generalizing st a with
  | zero => rfl
  | succ n ih =>
    show blocks n (compress st ((a ++ b).take 64)) ((a ++ b).drop 64) = blocks n (compress st (a.take 64)) (a.drop 64)
    rw [List.take_append_of_le_length (by omega), List.drop_append_of_le_length (by omega)]
    exact ih _ _ (by simp; omega)
theorem init8_length : init8.length = 8 := rfl
theorem init8_lt : ∀ x ∈ init8, x < 4294967296 := by decide

def wc (l : List Nat) : List Value := l.map fun x : Nat => Value.int .u32 (x : Int)
theorem wc_length (l : List Nat) : (wc l).length = l.length := by simp [wc]
theorem wc_at {l : List Nat} {i : Nat} (h : i < l.length) : (wc l)[i]? = some (.int .u32 (wAt l i : Nat)) := by simp [wc, wAt, h]

/-- a hasher's cells -/
def hcells (st : List Nat) (rest : List UInt8) (n : Nat) : List Value := wc st ++ (dc rest ++ [.int .u64 (n : Int)])
section
variable {st st' : List Nat} {rest rest' : List UInt8} {n n' : Nat}
theorem hcells_length (h : st.length = 8) (h' : rest.length = 64) : (hcells st rest n).length = 73 := by simp [hcells, wc_length, dc_length, h, h']
theorem hcells_n (h : st.length = 8) (h' : rest.length = 64) : (hcells st rest n)[72]? = some (.int .u64 (n : Int)) := by
  unfold hcells
  rw [List.getElem?_append_right (by rw [wc_length, h]; decide), wc_length, h, List.getElem?_append_right (by rw [dc_length, h']; decide), dc_length, h']
  rfl
theorem hcells_set_n (h : st.length = 8) (h' : rest.length = 64) : (hcells st rest n).set 72 (.int .u64 (n' : Int)) = hcells st rest n' := by
  unfold hcells
  rw [List.set_append, if_neg (by rw [wc_length, h]; decide), wc_length, h, List.set_append, if_neg (by rw [dc_length, h']; decide), dc_length, h']
  rfl
theorem hcells_st (h : st.length = 8) : ((hcells st rest n).drop 0).take 8 = wc st := by
  unfold hcells
  rw [List.drop_zero, List.take_append_of_le_length (by rw [wc_length, h]; decide), List.take_of_length_le (by rw [wc_length, h]; decide)]
theorem hcells_put_st (h : st.length = 8) (h2 : st'.length = 8) : splice (hcells st rest n) 0 (wc st') = hcells st' rest n := by
  unfold splice hcells
  rw [wc_length, h2, List.take_zero, List.nil_append, Nat.zero_add, List.drop_append_of_le_length (by rw [wc_length, h]; decide), List.drop_of_length_le (by rw [wc_length, h]; decide), List.nil_append]
theorem hcells_st_at (h : st.length = 8) {i : Nat} (hi : i < 8) : (hcells st rest n)[0 + i]? = some (.int .u32 (wAt st i : Nat)) := by
  unfold hcells
  rw [Nat.zero_add, List.getElem?_append_left (by rw [wc_length, h]; exact hi), wc_at (by rw [h]; exact hi)]
theorem hcells_rest (h : st.length = 8) (h' : rest.length = 64) : ((hcells st rest n).drop 8).take rest.length = dc rest := by
  unfold hcells
  rw [List.drop_append_of_le_length (by rw [wc_length, h]; decide), List.drop_of_length_le (by rw [wc_length, h]; decide), List.nil_append, List.take_append_of_le_length (by rw [dc_length, h']; decide), List.take_of_length_le (by rw [dc_length]; exact Nat.le_refl _)]
/-- bytes written into the rest -/
def put (rest : List UInt8) (o : Nat) (l : List UInt8) : List UInt8 := rest.take o ++ l ++ rest.drop (o + l.length)
theorem put_length {o : Nat} {l : List UInt8} (h : o + l.length ≤ rest.length) : (put rest o l).length = rest.length := by simp [put]; omega
theorem hcells_put {o : Nat} {l : List UInt8} (h : st.length = 8) (h' : rest.length = 64) (hl : o + l.length ≤ 64) : splice (hcells st rest n) (8 + o) (dc l) = hcells st (put rest o l) n := by
  unfold splice hcells put
  rw [dc_append, dc_append, dc_length]
  rw [List.take_append, wc_length, h, show 8 + o - 8 = o by omega, List.take_of_length_le (by rw [wc_length, h]; omega), List.take_append_of_le_length (by rw [dc_length, h']; omega), dc_take]
  rw [List.drop_append, wc_length, h, List.drop_of_length_le (by rw [wc_length, h]; omega), List.nil_append, show 8 + o + l.length - 8 = o + l.length by omega, List.drop_append_of_le_length (by rw [dc_length, h']; omega), dc_drop]
  simp only [List.append_assoc]
end

/-- a hasher that has taken m -/
def HS (m : List UInt8) (cs : List Value) : Prop :=
  ∃ rest : List UInt8, rest.length = 64 ∧ rest.take (m.length % 64) = m.drop (m.length / 64 * 64) ∧ cs = hcells (blocks (m.length / 64) init8 m) rest m.length
theorem HS.new : HS [] (hcells init8 (List.replicate 64 0) 0) := ⟨List.replicate 64 0, by simp, by simp, rfl⟩
/-- the last piece, behind whole blocks -/
theorem HS.tail (m l : List UInt8) (rest : List UInt8) (hr : rest.length = 64) (hm : m.length % 64 = 0) (hl : l.length < 64) :
    HS (m ++ l) (hcells (blocks (m.length / 64) init8 m) (put rest 0 l) (m.length + l.length)) := by
  have e1 : (m ++ l).length / 64 = m.length / 64 := by rw [List.length_append]; omega
  have e2 : (m ++ l).length % 64 = l.length := by rw [List.length_append]; omega
  have e3 : m.length / 64 * 64 = m.length := by omega
  refine ⟨put rest 0 l, by rw [put_length (by omega), hr], ?_, ?_⟩
  · rw [e2, e1, e3]
    simp [put]
  · rw [e1, blocks_prefix _ _ _ _ (by omega), List.length_append]
/-- a piece that fills no block -/
theorem HS.part (m l : List UInt8) (rest : List UInt8) (hr : rest.length = 64) (ht : rest.take (m.length % 64) = m.drop (m.length / 64 * 64)) (hl : m.length % 64 + l.length < 64) :
    HS (m ++ l) (hcells (blocks (m.length / 64) init8 m) (put rest (m.length % 64) l) (m.length + l.length)) := by
  have e1 : (m ++ l).length / 64 = m.length / 64 := by rw [List.length_append]; omega
  have e2 : (m ++ l).length % 64 = m.length % 64 + l.length := by rw [List.length_append]; omega
  refine ⟨put rest (m.length % 64) l, by rw [put_length (by omega), hr], ?_, ?_⟩
  · rw [e2, e1, List.drop_append_of_le_length (by omega), ← ht]
    unfold put
    rw [List.take_append_of_le_length (by simp; omega), List.take_of_length_le (by simp; omega)]
  · rw [e1, blocks_prefix _ _ _ _ (by omega), List.length_append]
/-- a piece that fills the block -/
theorem fills (m l : List UInt8) (rest : List UInt8) (hr : rest.length = 64) (ht : rest.take (m.length % 64) = m.drop (m.length / 64 * 64)) (hl : m.length % 64 + l.length = 64) :
    compress (blocks (m.length / 64) init8 m) (put rest (m.length % 64) l) = blocks ((m ++ l).length / 64) init8 (m ++ l) ∧ (m ++ l).length % 64 = 0 := by
  have e1 : (m ++ l).length / 64 = m.length / 64 + 1 := by rw [List.length_append]; omega
  refine ⟨?_, by rw [List.length_append]; omega⟩
  rw [e1, blocks_end, blocks_prefix _ _ _ _ (by omega)]
  congr 1
  have h1 : put rest (m.length % 64) l = m.drop (m.length / 64 * 64) ++ l := by
    unfold put
    have h2 : rest.drop 64 = [] := List.drop_of_length_le (by omega)
    rw [ht, hl, h2, List.append_nil]
  rw [h1, List.drop_append_of_le_length (by omega), List.take_of_length_le (by simp; omega), Nat.mul_comm]
/-- one block more -/
theorem block_more (m l : List UInt8) (j : Nat) (hm : m.length % 64 = 0) :
    compress (blocks (m.length / 64 + j) init8 (m ++ l)) ((l.drop (64 * j)).take 64) = blocks (m.length / 64 + (j + 1)) init8 (m ++ l) := by
  rw [← Nat.add_assoc, blocks_end]
  congr 2
  have h2 : m.drop (64 * (m.length / 64 + j)) = [] := List.drop_of_length_le (by omega)
  rw [List.drop_append, h2, List.nil_append]
  congr 1
  omega
end Go.Dk
