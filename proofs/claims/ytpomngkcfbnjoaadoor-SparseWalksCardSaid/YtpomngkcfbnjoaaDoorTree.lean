/- Texts that belong together, one behind the other. -/
import Derived.Test.YtpomngkcfbnjoaaDoorMem
import Derived.OpenShut
import Derived.ShutString
import Derived.ChangeOld
import Derived.Lib.Hide
import Derived.ChangeSlices
import Derived.SizedLaws
import Derived.Deep.Slices
import Derived.OrdersHeld
import Derived.Tactics
import Derived.Tactics2
import Derived.KernelRfl
import Derived.Laws.World
import Derived.Test.YtpomngkcfbnjoaaDoorRows
import Derived.Laws.BitsAllLaws
import Derived.Laws.MakeOwn
import Derived.Deep.AppendSrc
import Derived.Laws.IdiomStrings
import Derived.Deep.DeepAppendWide
import Derived.Great.BuildSlice
import Derived.Lib.SlBytesConst
/- How arguments are opened: arrays of bytes by value. Plain lemmas over the model; no program. -/
namespace Go.Dk
open Go Go.ChangeShapes Go.WideShapes Go.ChangeAt Go.RowKit
section
variable {H : Type} {enc : TypeId × Value → H} {P : Program} {w : World} {base : Nat} {spare : Nat → Bool} {held : Bool} {t e : TypeId} {v : Value} {d : DataW H} {p : List MemPlace} {r : Reach} {b0 : Nat}

def byteOf : Value → UInt8
  | .int _ n => UInt8.ofNat n.toNat
  | _ => 0
theorem byteOf_ok {n : Int} (h : (Lit.int .u8 n).wf = true) : Value.int .u8 ((byteOf (.int .u8 n)).toNat : Int) = .int .u8 n := by
  have hb : 0 ≤ n ∧ n ≤ 255 := by simpa [Lit.wf, IntKind.min, IntKind.max, IntKind.signed, IntKind.bits] using h
  simp only [byteOf, UInt8.toNat_ofNat']
  congr 1
  omega

end
end Go.Dk

/- SHA-256 in plain Lean, over natural numbers: what both texts compute. No Go, no program. -/
namespace Go.Dk
def rotr (x n : Nat) : Nat := (x / 2 ^ n) ||| (x * 2 ^ (32 - n) % 4294967296)
def sig0 (x : Nat) : Nat := (rotr x 7 ^^^ rotr x 18) ^^^ (x / 2 ^ 3)
def sig1 (x : Nat) : Nat := (rotr x 17 ^^^ rotr x 19) ^^^ (x / 2 ^ 10)
def Sig0 (x : Nat) : Nat := (rotr x 2 ^^^ rotr x 13) ^^^ rotr x 22
def Sig1 (x : Nat) : Nat := (rotr x 6 ^^^ rotr x 11) ^^^ rotr x 25
def chN (e f g : Nat) : Nat := (e &&& f) ^^^ ((4294967295 ^^^ e) &&& g)
def majN (a b c : Nat) : Nat := ((a &&& b) ^^^ (a &&& c)) ^^^ (b &&& c)
def add32 (a b : Nat) : Nat := (a + b) % 4294967296

/-- the next word of the schedule behind those that there are -/
def wAt (w : List Nat) (i : Nat) : Nat := w[i]?.getD 0
def wNext (w : List Nat) : Nat := add32 (add32 (add32 (wAt w (w.length - 16)) (sig0 (wAt w (w.length - 15)))) (wAt w (w.length - 7))) (sig1 (wAt w (w.length - 2)))
def sched : Nat → List Nat → List Nat
  | 0, w => w
  | n + 1, w => let v := sched n w; v ++ [wNext v]
def word (a b c d : UInt8) : Nat := ((a.toNat * 2 ^ 24 ||| b.toNat * 2 ^ 16) ||| c.toNat * 2 ^ 8) ||| d.toNat
def bAt (bs : List UInt8) (i : Nat) : UInt8 := bs[i]?.getD 0
def words : Nat → List UInt8 → List Nat
  | 0, _ => []
  | n + 1, bs => words n bs ++ [word (bAt bs (4 * n)) (bAt bs (4 * n + 1)) (bAt bs (4 * n + 2)) (bAt bs (4 * n + 3))]

structure St where
  a : Nat
  b : Nat
  c : Nat
  d : Nat
  e : Nat
  f : Nat
  g : Nat
  h : Nat
def St.x (s : St) (k w : Nat) : Nat := add32 (add32 (add32 (add32 s.h (Sig1 s.e)) (chN s.e s.f s.g)) k) w
def St.y (s : St) : Nat := add32 (Sig0 s.a) (majN s.a s.b s.c)
def St.step (s : St) (k w : Nat) : St := ⟨add32 (s.x k w) s.y, s.a, s.b, s.c, add32 s.d (s.x k w), s.e, s.f, s.g⟩
def St.list (s : St) : List Nat := [s.a, s.b, s.c, s.d, s.e, s.f, s.g, s.h]
def St.of (l : List Nat) : St := ⟨wAt l 0, wAt l 1, wAt l 2, wAt l 3, wAt l 4, wAt l 5, wAt l 6, wAt l 7⟩

def ks : List Nat := [
  0x428a2f98, 0x71374491, 0xb5c0fbcf, 0xe9b5dba5, 0x3956c25b, 0x59f111f1, 0x923f82a4, 0xab1c5ed5,
  0xd807aa98, 0x12835b01, 0x243185be, 0x550c7dc3, 0x72be5d74, 0x80deb1fe, 0x9bdc06a7, 0xc19bf174,
  0xe49b69c1, 0xefbe4786, 0x0fc19dc6, 0x240ca1cc, 0x2de92c6f, 0x4a7484aa, 0x5cb0a9dc, 0x76f988da,
  0x983e5152, 0xa831c66d, 0xb00327c8, 0xbf597fc7, 0xc6e00bf3, 0xd5a79147, 0x06ca6351, 0x14292967,
  0x27b70a85, 0x2e1b2138, 0x4d2c6dfc, 0x53380d13, 0x650a7354, 0x766a0abb, 0x81c2c92e, 0x92722c85,
  0xa2bfe8a1, 0xa81a664b, 0xc24b8b70, 0xc76c51a3, 0xd192e819, 0xd6990624, 0xf40e3585, 0x106aa070,
  0x19a4c116, 0x1e376c08, 0x2748774c, 0x34b0bcb5, 0x391c0cb3, 0x4ed8aa4a, 0x5b9cca4f, 0x682e6ff3,
  0x748f82ee, 0x78a5636f, 0x84c87814, 0x8cc70208, 0x90befffa, 0xa4506ceb, 0xbef9a3f7, 0xc67178f2]
def init8 : List Nat := [0x6a09e667, 0xbb67ae85, 0x3c6ef372, 0xa54ff53a, 0x510e527f, 0x9b05688c, 0x1f83d9ab, 0x5be0cd19]

/-- t rounds -/
def rounds (w : List Nat) (s : St) : Nat → St
  | 0 => s
  | t + 1 => (rounds w s t).step (wAt ks t) (wAt w t)
/-- one block taken in -/
def compress (st : List Nat) (bs : List UInt8) : List Nat :=
  (List.range 8).map fun i => add32 (wAt st i) (wAt (rounds (sched 48 (words 16 bs)) (St.of st) 64).list i)
/-- many blocks -/
def blocks : Nat → List Nat → List UInt8 → List Nat
  | 0, st, _ => st
  | n + 1, st, bs => blocks n (compress st (bs.take 64)) (bs.drop 64)
def be (k n : Nat) : List UInt8 := (List.range k).map fun i => UInt8.ofNat (n / 256 ^ (k - 1 - i))
/-- the text, filled up -/
def padding (n : Nat) : List UInt8 := 128 :: List.replicate ((119 - n % 64) % 64) 0 ++ be 8 (8 * n % 18446744073709551616)
def sha (bs : List UInt8) : List UInt8 :=
  let m := bs ++ padding bs.length
  (blocks (m.length / 64) init8 m).flatMap (be 4)
end Go.Dk

/- Slices of bytes: what can be read of them, copies. Plain lemmas over the model; no program. -/
namespace Go.Dk
open Go Go.RowKit
/-! ### Slices of bytes -/
theorem bAt_take {l : List UInt8} {i k : Nat} (h : i < k) : bAt (l.take k) i = bAt l i := by simp [bAt, h]
theorem bAt_drop {l : List UInt8} {i k : Nat} : bAt (l.drop k) i = bAt l (k + i) := by simp [bAt, List.getElem?_drop]
theorem dc_at {l : List UInt8} {i : Nat} (h : i < l.length) : (dc l)[i]? = some (.int .u8 (bAt l i).toNat) := by simp [dc, bAt, h]
theorem dc_append (a b : List UInt8) : dc (a ++ b) = dc a ++ dc b := by simp [dc]
theorem dc_length (a : List UInt8) : (dc a).length = a.length := by simp [dc]
theorem dc_take (a : List UInt8) (k : Nat) : (dc a).take k = dc (a.take k) := by simp [dc]
theorem dc_drop (a : List UInt8) (k : Nat) : (dc a).drop k = dc (a.drop k) := by simp [dc]
theorem dc_one (D : List UInt8) : ∀ v ∈ dc D, v.oneCell' = true := by
  intro v hv
  simp only [dc, List.mem_map] at hv
  obtain ⟨b, _, rfl⟩ := hv
  rfl

/-- The bytes l can be read from the address on. -/
def Bts (w : World) (A : Option Addr) (l : List UInt8) : Prop :=
  l ≠ [] → ∃ b o, A = some ⟨b, o, none⟩ ∧ b < w.heap.size ∧ ∀ i, i < l.length → w.cell? ⟨b, o + i, none⟩ = some (.int .u8 (bAt l i).toNat)
/-- The address lies in another block. -/
def Off (A : Option Addr) (g : Nat) : Prop := ∀ ad, A = some ad → ad.block ≠ g

section
variable {w0 w w' : World} {L : List Row} {A : Option Addr} {l : List UInt8} {g : Nat}
theorem Bts.nil (w : World) (A : Option Addr) : Bts w A [] := fun h => absurd rfl h
theorem Bts.drew (h : Bts w A l) (n : Nat) : Bts (w.drewN n) A l := h
/-- What was there at the start, and is not listed, is there still. -/
theorem Bts.at_ (h : Bts w0 A l) (hA : At w0 L w) (hn : ∀ r ∈ L, Off A r.1) : Bts w A l := fun hne => by
  obtain ⟨b, o, rfl, hb, hc⟩ := h hne
  refine ⟨b, o, rfl, Nat.lt_of_lt_of_le hb hA.size, fun i hi => ?_⟩
  rw [hA.old hb (fun hm => by
    obtain ⟨r, hr, he⟩ := List.mem_map.1 hm
    exact hn r hr _ rfl he.symm)]
  exact hc i hi
theorem Bts.then0 (h : Bts w A l) (hA : At w [] w') : Bts w' A l := h.at_ hA (fun _ hr => by cases hr)
theorem Off.sub {k cap size : Nat} (h : Off A g) : Off (sub A k cap size) g := by
  intro ad he
  unfold Dk.sub at he
  split at he
  · exact h ad he
  · cases A with
    | none => cases he
    | some a =>
      simp only [Option.map_some, Option.some.injEq] at he
      subst he
      have := h a rfl
      unfold Addr.add
      split <;> exact this
theorem Bts.drop (h : Bts w A l) (k : Nat) {cap : Nat} (hc : l.length ≤ cap) : Bts w (sub A k cap 1) (l.drop k) := fun hne => by
  have hk : k < l.length := by
    rcases Nat.lt_or_ge k l.length with h1 | h1
    · exact h1
    · exact absurd (List.drop_eq_nil_iff.2 h1) hne
  obtain ⟨b, o, rfl, hb, hcell⟩ := h (fun e => by rw [e] at hk; exact absurd hk (Nat.not_lt_zero _))
  refine ⟨b, o + k, sub_lt (by omega), hb, fun i hi => ?_⟩
  rw [List.length_drop] at hi
  have := hcell (k + i) (by omega)
  rw [bAt_drop, ← this, Nat.add_assoc]
theorem Bts.take (h : Bts w A l) (k : Nat) : Bts w A (l.take k) := fun hne => by
  obtain ⟨b, o, rfl, hb, hcell⟩ := h (fun e => hne (by rw [e]; simp))
  refine ⟨b, o, rfl, hb, fun i hi => ?_⟩
  rw [List.length_take] at hi
  rw [bAt_take (by omega)]
  exact hcell i (by omega)
theorem Bts.row (hA : At w0 L w) {k : Nat} {t : TypeId} {cs : List Value} (hk : L[k]? = some (g, t, cs)) {o : Nat} (hc : (cs.drop o).take l.length = dc l) : Bts w (some ⟨g, o, none⟩) l := fun _ => by
  refine ⟨g, o, rfl, hA.lt hk, fun i hi => ?_⟩
  rw [hA.cell hk]
  have h1 : ((cs.drop o).take l.length)[i]? = cs[o + i]? := by rw [List.getElem?_take, if_pos hi, List.getElem?_drop]
  rw [← h1, hc, dc_at hi]
end

section
variable {P : Program} {ops : Array Oper} {Q : Exit → Act → World → Prop} {a : Act} {w0 w : World} {L : List Row} {rest : List Oper} {o : Oper}
/-- 'copy' onto a row, from bytes that can be read. -/
theorem run_copy_bytes {x y : Operand} {tx ty e : TypeId} (ho : o.op = .call { callee := .builtin .copy, args := #[x, y], argTypes := #[tx, ty] }) (hA : At w0 L w)
    (hu : P.underlying tx = some (.slice e)) (hs : (P.info? e).map (·.size) = some 1) {D A : Option Addr} {dLen dc' sLen sc : Nat} (hx : a.eval x = .slice D dLen dc') (hy : a.eval y = .slice A sLen sc)
    {l : List UInt8} (hl : l.length = Nat.min sLen dLen) (hr : Bts w A l) {g off k : Nat} {te : TypeId} {cs : List Value} (hk : L[k]? = some (g, te, cs)) (hD : 0 < l.length → D = some ⟨g, off, none⟩) (hfit : off + l.length ≤ cs.length) :
    ∃ w', (execOp a.eval o).run P w = .ok (.value (.int .i64 (l.length : Nat))) w' ∧ At w0 (L.set k (g, te, splice cs off (dc l))) w' := by
  have hrow := hA.row hk
  have hsz := run_sizeOf (w := w) hs
  by_cases hne : l = []
  · subst hne
    have hsame : splice cs off (dc []) = cs := by simp [splice, dc]
    have hput := hA.put hk (splice cs off (dc []))
    rw [hsame] at hput
    have hself := setRow_self w g _ te (0, 0) hrow
    rw [hself] at hput
    refine ⟨w, ?_, by rw [hsame]; exact hput⟩
    have h0 : Nat.min sLen dLen = 0 := hl.symm
    unfold execOp
    cases A <;> cases D <;>
    simp [ho, hx, hy, resolve, invoke, builtin, Builtin.copy_, run_underlying hu w, Builtin.lenOf, Builtin.firstCells, hsz, h0, storeCells, loadCells, loadCellsFrom, goInt]
  · obtain ⟨b, o', rfl, hb, hcell⟩ := hr hne
    have hpos : 0 < l.length := List.length_pos_iff.2 hne
    obtain rfl := hD hpos
    refine ⟨_, ?_, hA.put hk (splice cs off (dc l))⟩
    have hl' := run_loadCells_list (P := P) w ⟨b, o', none⟩ (dc l) (fun j v hj => by
      rw [Addr.add_mid]
      have hjl : j < l.length := by
        have := (List.getElem?_eq_some_iff.1 hj).1
        rwa [dc_length] at this
      rw [dc_at hjl] at hj
      rw [hcell j hjl, ← hj])
    have hst := run_storeCells_at P g off te (dc l) 0 _ w hrow (by rw [dc_length]; simpa using hfit) (dc_one l)
    rw [dc_length] at hl'
    unfold execOp
    simp only [ho, hx, hy, resolve, invoke, builtin, Builtin.copy_, Builtin.lenOf, Builtin.firstCells, List.map_toArray, List.map_cons, List.map_nil, Sem.run_bind, Sem.run_pure, Result.andThen_ok, run_underlying hu w, List.getElem?_toArray, List.getElem?_cons_zero,
      List.getElem?_cons_succ, hsz, ← hl, Nat.mul_one, hl', hst, goInt]
    simp [splice]
theorem wp_copy {K : Act → World → Prop} {x y : Operand} {tx ty e : TypeId} (ho : o.op = .call { callee := .builtin .copy, args := #[x, y], argTypes := #[tx, ty] }) (hA : At w0 L w)
    (hu : P.underlying tx = some (.slice e)) (hs : (P.info? e).map (·.size) = some 1) {D A : Option Addr} {dLen dc' sLen sc : Nat} (hx : a.eval x = .slice D dLen dc') (hy : a.eval y = .slice A sLen sc)
    {l : List UInt8} (hl : l.length = Nat.min sLen dLen) (hr : Bts w A l) {g off : Nat} (k : Nat) {te : TypeId} {cs : List Value} (hk : L[k]? = some (g, te, cs)) (hD : 0 < l.length → D = some ⟨g, off, none⟩) (hfit : off + l.length ≤ cs.length)
    (h : ∀ w', At w0 (L.set k (g, te, splice cs off (dc l))) w' → K (a.put o.dst (.int .i64 (l.length : Nat))) w') : o.wp P a w K Q := by
  obtain ⟨w', h1, h2⟩ := run_copy_bytes ho hA hu hs hx hy hl hr hk hD hfit
  unfold Oper.wp
  rw [h1]
  exact h w' h2
theorem at_build {t : TypeId} {ps : Array (Nat × Operand)} (_ : o.op = .build t ps) (h : wpList P ops Q (o :: rest) a w) : wpList P ops Q (o :: rest) a w := h
theorem wp_build {K : Act → World → Prop} {t : TypeId} {ps : Array (Nat × Operand)} (ho : o.op = .build t ps) {v : Value} (hr : (Instr.build t (ps.map fun (i, x) => (i, a.eval x))).run P w = .ok v w) (h : K (a.put o.dst v) w) : o.wp P a w K Q := by
  unfold Oper.wp execOp
  simp only [ho, Sem.run_bind, hr, Result.andThen_ok, Sem.run_pure]
  exact h
theorem run_sliceArr {t e : TypeId} {x : Operand} {lo hi : Option Operand} (ho : o.op = .slice t x lo hi none) {n size : Nat} (hu : P.underlying t = some (.array n e))
    (hs : (P.info? e).map (·.size) = some size) {ad : Addr} (hx : a.eval x = .pointer (some ad)) (l h : Nat) (hlo : boundIs (lo.map a.eval) 0 l) (hhi : boundIs (hi.map a.eval) n h) (h1 : l ≤ h) (h2 : h ≤ n)
    {v : Value} (hv : Value.slice (sub (some ad) l n size) (h - l) (n - l) = v) : (execOp a.eval o).run P w = .ok (.value v) w := by
  subst hv
  unfold execOp
  simp only [ho, hx, Instr.sliceAt, Instr.sureAddr, Sem.run_bind, Sem.run_pure, Result.andThen_ok, run_underlying hu w, run_sliceBounds false n n hlo hhi h1 h2, run_sizeOf hs, Option.map_none]
  have he : some (if n = l then ad else ad.add (l * size)) = sub (some ad) l n size := by unfold sub; split <;> rfl
  rw [he]
theorem run_sliceSl {t e : TypeId} {x : Operand} {lo hi : Option Operand} (ho : o.op = .slice t x lo hi none) {size : Nat} (hu : P.underlying t = some (.slice e))
    (hs : (P.info? e).map (·.size) = some size) {A : Option Addr} {len cap : Nat} (hx : a.eval x = .slice A len cap) (l h : Nat) (hlo : boundIs (lo.map a.eval) 0 l) (hhi : boundIs (hi.map a.eval) len h) (h1 : l ≤ h) (h2 : h ≤ cap)
    {v : Value} (hv : Value.slice (sub A l cap size) (h - l) (cap - l) = v) : (execOp a.eval o).run P w = .ok (.value v) w := by
  subst hv
  unfold execOp
  simp only [ho, hx, Instr.sliceAt, Instr.slice, Sem.run_bind, Sem.run_pure, Result.andThen_ok, run_underlying hu w, run_sliceBounds true len cap hlo hhi h1 h2, run_sizeOf hs, Option.map_none]
  rfl
/-- for a loop's measure -/
def lenV : Value → Nat
  | .slice _ n _ => n
  | _ => 0
end
end Go.Dk

/- How arguments are opened: slices of bytes, slices of such slices. Plain lemmas over the model; no program. -/
namespace Go.Dk
open Go Go.ChangeShapes Go.WideShapes Go.ChangeAt Go.RowKit Go.Deep
section
variable {H : Type} {enc : TypeId × Value → H} {P : Program} {w : World} {held : Bool} {t e : TypeId} {v : Value} {d : DataW H} {p : List MemPlace}
theorem addr_plain {a : Addr} {i : Nat} {u : Value} (h : w.cell? (a.add i) = some u) (hi : i = 0) : a = ⟨a.block, a.off, none⟩ := by
  subst hi
  obtain ⟨b, o, s⟩ := a
  have hs : s = none := by simpa [Addr.add] using World.cell?_spot h
  subst hs
  rfl
theorem block_lt_of_cell {ad : Addr} {u : Value} (h : w.cell? ad = some u) : ad.block < w.heap.size := by
  unfold World.cell? at h
  rcases Nat.lt_or_ge ad.block w.heap.size with h1 | h1
  · exact h1
  · rw [Array.getElem?_eq_none h1] at h; simp at h
theorem open_int64 {r : Reach} {b0 : Nat} {k : IntKind} (ht : P.underlying t = some (.int k)) (hv : Value.okWide P w r b0 t v) (h : DataW.Trod enc P w 0 (fun _ => true) held t v d p) : ∃ n : Int, v = .int k n ∧ k.min ≤ n ∧ n ≤ k.max := by
  cases v <;> simp_all [Value.okWide, Cell.okWide, Cell.ok, IntKind.has]
end
end Go.Dk

/- Regions that draw their order: one plan (a list of the operations' numbers) serves every order, where what is taken out of turn only reads, and what it reads is kept by whatever may come before it. Plain lemmas over the model; no program. -/
namespace Go.Dk
open Go
section
variable {P : Program} {ops : Array Oper} {Q : Exit → Act → World → Prop} {md : Region.Mode} {S : World → Prop} {n : Nat}

/-- Does j wait for i, by an edge of its own? -/
def direct (md : Region.Mode) (ops : Array Oper) (j i : Nat) : Bool :=
  match ops[j]? with
  | none => false
  | some o => o.after.any fun e => Region.binds md e && e.on == i

/-- Each of the first n is waited for by a later one, number n at most. -/
def sinks (md : Region.Mode) (ops : Array Oper) (n : Nat) : Bool :=
  (List.range n).all fun i => (List.range (n + 1)).any fun j => decide (i < j) && direct md ops j i

/-- The tail: each waits for the one ahead of it. -/
def chained (md : Region.Mode) (ops : Array Oper) (n : Nat) : Bool :=
  (List.range (ops.size - n)).all fun k => k == 0 || direct md ops (n + k) (n + k - 1)

/-- Whatever is listed, all that it waits for is listed. -/
def Closed (md : Region.Mode) (ops : Array Oper) (listed : Array Bool) : Prop :=
  ∀ j i, listed.getD j false = true → direct md ops j i = true → listed.getD i false = true

theorem direct_spec {j i : Nat} (h : direct md ops j i = true) : ∃ o, ops[j]? = some o ∧ ∃ e ∈ o.after, Region.binds md e = true ∧ e.on = i := by
  unfold direct at h
  cases ho : ops[j]? with
  | none => simp [ho] at h
  | some o =>
    simp only [ho] at h
    obtain ⟨e, he, hb⟩ := Array.any_eq_true'.1 h
    simp only [Bool.and_eq_true, beq_iff_eq] at hb
    exact ⟨o, rfl, e, he, hb.1, hb.2⟩

theorem ready_direct {j i : Nat} {listed : Array Bool} (hj : j ∈ Region.ready md ops listed) (h : direct md ops j i = true) : listed.getD i false = true := by
  obtain ⟨_, o, ho, hall⟩ := mem_ready.1 hj
  obtain ⟨o', ho', e, he, hb, rfl⟩ := direct_spec h
  rw [ho] at ho'
  injection ho' with ho'
  subst ho'
  exact hall e he hb

theorem getD_set {listed : Array Bool} {i j : Nat} (h : (listed.setIfInBounds i true).getD j false = true) : j = i ∨ listed.getD j false = true := by
  by_cases e : i = j
  · exact .inl e.symm
  · rw [getD_set_ne false e] at h; exact .inr h

theorem Closed.set {i : Nat} {listed : Array Bool} (h : Closed md ops listed) (hi : i ∈ Region.ready md ops listed) : Closed md ops (listed.setIfInBounds i true) := by
  intro j k hj hd
  rcases getD_set hj with rfl | hj
  · exact getD_set_true (ready_direct hi hd)
  · exact getD_set_true (h j k hj hd)

theorem getD_false_of_unlisted {listed : Array Bool} {i : Nat} (h : listed.getD i true = false) : listed.getD i false = false := by
  rcases Nat.lt_or_ge i listed.size with hlt | hge
  · simpa [hlt] using h
  · simp [Array.getElem?_eq_none hge] at h

/-- A tail's operation comes up only when the whole head is listed. -/
theorem head_listed (hs : sinks md ops n = true) (hc : chained md ops n = true) {listed : Array Bool} (hcl : Closed md ops listed) {j : Nat} (hjn : n ≤ j) (hj : j ∈ Region.ready md ops listed) :
    ∀ i, i < n → listed.getD i false = true := by
  have hjs : j < ops.size := by
    obtain ⟨_, o, ho, _⟩ := mem_ready.1 hj
    exact (Array.getElem?_eq_some_iff.1 ho).1
  have step : ∀ k, n ≤ k → k + 1 < ops.size → direct md ops (k + 1) k = true := fun k hk hlt => by
    have h1 := List.all_eq_true.1 hc (k + 1 - n) (by simp; omega)
    simp only [Bool.or_eq_true, beq_iff_eq] at h1
    rcases h1 with h1 | h1
    · omega
    · rw [show n + (k + 1 - n) = k + 1 by omega] at h1
      exact h1
  -- all between n and j - 1 are listed; and n is ready or listed
  have down : ∀ d k, n ≤ k → k < j → j - k = d → listed.getD k false = true := by
    intro d
    induction d using Nat.strongRecOn with
    | _ d ih =>
      intro k hk hkj hd
      by_cases e : k + 1 = j
      · subst e; exact ready_direct hj (step k hk hjs)
      · exact hcl (k + 1) k (ih (j - (k + 1)) (by omega) (k + 1) (by omega) (by omega) rfl) (step k hk (by omega))
  have nok : ∀ i, direct md ops n i = true → listed.getD i false = true := fun i hi => by
    by_cases e : j = n
    · subst e; exact ready_direct hj hi
    · exact hcl n i (down (j - n) n (Nat.le_refl _) (by omega) rfl) hi
  intro i hi
  have main : ∀ d i, i < n → n - i = d → listed.getD i false = true := by
    intro d
    induction d using Nat.strongRecOn with
    | _ d ih =>
      intro i hi hd
      have h1 := List.all_eq_true.1 hs i (by simpa using hi)
      obtain ⟨k, hk, h2⟩ := List.any_eq_true.1 h1
      simp only [Bool.and_eq_true, decide_eq_true_eq] at h2
      simp only [List.mem_range] at hk
      by_cases e : k = n
      · subst e; exact nok i h2.2
      · exact hcl k i (ih (n - k) (by omega) k (by omega) rfl) h2.2
  exact main (n - i) i hi rfl

/-- Whatever order is picked from here on; S holds behind every operation of the head that is carried out. -/
def wpAnyT (P : Program) (md : Region.Mode) (ops : Array Oper) (Q : Exit → Act → World → Prop) (S : World → Prop) (n : Nat) : Nat → Array Bool → Act → World → Prop
  | 0, listed, a, w => Region.ready md ops listed = [] ∧ Q .normal a w
  | fuel + 1, listed, a, w =>
    (Region.ready md ops listed = [] → Q .normal a w) ∧
    ∀ i ∈ Region.ready md ops listed, wpOp P ops Q i (fun a' w' => (i < n → S w') ∧ wpAnyT P md ops Q S n fuel (listed.setIfInBounds i true) a' w') a w

theorem wpAny_of_T : ∀ (fuel : Nat) (listed : Array Bool) (a : Act) (w : World), wpAnyT P md ops Q S n fuel listed a w → wpAny P md ops Q fuel listed a w
  | 0, _, _, _, h => h
  | fuel + 1, _, _, _, h => ⟨h.1, fun i hi => wpOp_mono (fun a' w' h' => wpAny_of_T fuel _ a' w' h'.2) (h.2 i hi)⟩

theorem wpAnyT_first {i : Nat} {oi : Oper} {v : Value} (hs : sinks md ops n = true) (hc : chained md ops n = true) (hin : i < n) (hi : ops[i]? = some oi)
    (hsel : ∀ (j : Nat) (o : Oper) cs b, ops[j]? = some o → o.op ≠ .select cs b)
    (hQ : ∀ c a w, Q (.panic c) (a.put oi.dst v) w → Q (.panic c) a w) :
    ∀ (fuel : Nat) (listed : Array Bool) (a : Act) (w : World), Closed md ops listed →
      (∀ j oj, ops[j]? = some oj → j ≠ i → listed.getD j true = false → (∀ e ∈ oj.after, Region.binds md e = true → e.on ≠ i) → oi.apart ops oj = true) →
      i ∈ Region.ready md ops listed → YieldsIf P ops S oi v a → S w →
      wpAnyT P md ops Q S n fuel (listed.setIfInBounds i true) (a.put oi.dst v) w → wpAnyT P md ops Q S n (fuel + 1) listed a w := by
  intro fuel
  induction fuel with
  | zero =>
    intro listed a w _ _ hr hy hS H
    refine ⟨fun h => (by rw [h] at hr; cases hr), fun j hj => ?_⟩
    by_cases hji : j = i
    · subst hji; exact hy.wpOp hi hS ⟨fun _ => hS, H⟩
    · have := ready_mono hj hji
      rw [H.1] at this
      cases this
  | succ fuel ih =>
    intro listed a w hcl hfree hr hy hS H
    refine ⟨fun h => (by rw [h] at hr; cases hr), fun j hj => ?_⟩
    by_cases hji : j = i
    · subst hji; exact hy.wpOp hi hS ⟨fun _ => hS, H⟩
    · have hjn : j < n := by
        rcases Nat.lt_or_ge j n with h | h
        · exact h
        · have h1 := head_listed hs hc hcl h hj i hin
          have h2 := getD_false_of_unlisted (mem_ready.1 hr).1
          rw [h1] at h2; cases h2
      have h1 := H.2 j (ready_mono hj hji)
      obtain ⟨hjun, oj, hoj, hall⟩ := mem_ready.1 hj
      have hnot : ∀ e ∈ oj.after, Region.binds md e = true → e.on ≠ i := fun e he hb heq => by
        have h1 := hall e he hb
        have h0 := getD_false_of_unlisted (mem_ready.1 hr).1
        rw [heq, h0] at h1
        cases h1
      have h2 := wpOp_putIf hoj (hfree j oj hoj hji hjun hnot) (fun cs b => hsel i oi cs b hi) (fun cs b => hsel j oj cs b hoj) hQ hy h1
      have hfree' : ∀ k ok, ops[k]? = some ok → k ≠ i → (listed.setIfInBounds j true).getD k true = false →
          (∀ e ∈ ok.after, Region.binds md e = true → e.on ≠ i) → oi.apart ops ok = true := fun k ok hk hki hun hno => by
        refine hfree k ok hk hki ?_ hno
        by_cases hjk : j = k
        · subst hjk; exact hjun
        · rw [getD_set_ne true hjk] at hun; exact hun
      refine wpOp_mono (fun a' w' h3 => ⟨h3.2.1, ih (listed.setIfInBounds j true) a' w' (hcl.set hj) hfree' (ready_mono hr (Ne.symm hji)) h3.1 (h3.2.1 hjn) ?_⟩) h2
      rw [Array.setIfInBounds_comm _ _ hji]
      exact h3.2.2

/-- A plan: the numbers in an order; those that are not loud are taken out of turn. -/
def planB (md : Region.Mode) (ops : Array Oper) (n : Nat) (loud : List Nat) : List Nat → Array Bool → Bool
  | [], listed => (Region.ready md ops listed).isEmpty
  | i :: rest, listed =>
    (Region.ready md ops listed).contains i &&
    (if loud.contains i then Region.ready md ops listed == [i] && (decide (i < n) || rest.all loud.contains)
     else decide (i < n) && Region.free md ops listed i) &&
    planB md ops n loud rest (listed.setIfInBounds i true)

def planOK (md : Region.Mode) (ops : Array Oper) (n : Nat) (loud order : List Nat) : Bool :=
  Region.noSelect ops && sinks md ops n && chained md ops n && order.length == ops.size && planB md ops n loud order (Array.replicate ops.size false)

def wpPlan (P : Program) (ops : Array Oper) (Q : Exit → Act → World → Prop) (S : World → Prop) (n : Nat) (loud : List Nat) : List Nat → Act → World → Prop
  | [], a, w => Q .normal a w
  | i :: rest, a, w =>
    match ops[i]? with
    | none => False
    | some o =>
      if loud.contains i then wpOp P ops Q i (fun a' w' => (i < n → S w') ∧ wpPlan P ops Q S n loud rest a' w') a w
      else if Region.wanted o (yielded ops a.tmps) then ∃ v, (∀ x, S x → (execOp a.eval o).run P x = .ok (.value v) x) ∧ wpPlan P ops Q S n loud rest (a.put o.dst v) w
      else wpPlan P ops Q S n loud rest (a.put o.dst undef) w

theorem plan_sound {loud : List Nat} (hsel : Region.noSelect ops = true) (hs : sinks md ops n = true) (hc : chained md ops n = true) (hQ : ∀ c a w, ¬ Q (.panic c) a w) :
    ∀ (order : List Nat) (listed : Array Bool) (a : Act) (w : World), planB md ops n loud order listed = true → Closed md ops listed → ((order.all loud.contains) = false → S w) →
      wpPlan P ops Q S n loud order a w → wpAnyT P md ops Q S n order.length listed a w
  | [], listed, a, w, hB, _, _, h => ⟨by simpa [planB] using hB, h⟩
  | i :: rest, listed, a, w, hB, hcl, hS, h => by
    simp only [planB, Bool.and_eq_true] at hB
    obtain ⟨⟨hr, hk⟩, hB'⟩ := hB
    have hr' : i ∈ Region.ready md ops listed := by simpa using hr
    simp only [wpPlan] at h
    cases ho : ops[i]? with
    | none => simp [ho] at h
    | some o =>
      simp only [ho] at h
      by_cases hl : loud.contains i = true
      · rw [if_pos hl] at h hk
        simp only [Bool.and_eq_true, beq_iff_eq, Bool.or_eq_true, decide_eq_true_eq] at hk
        refine ⟨fun h0 => (by rw [h0] at hr'; cases hr'), fun j hj => ?_⟩
        rw [hk.1] at hj
        simp only [List.mem_singleton] at hj
        subst hj
        refine wpOp_mono (fun a' w' h' => ⟨h'.1, plan_sound hsel hs hc hQ rest _ a' w' hB' (hcl.set hr') (fun hq => ?_) h'.2⟩) h
        rcases hk.2 with h2 | h2
        · exact h'.1 h2
        · rw [h2] at hq; cases hq
      · have hl' : loud.contains i = false := by simpa using hl
        rw [if_neg hl] at h hk
        simp only [Bool.and_eq_true, decide_eq_true_eq] at hk
        have hSw : S w := hS (by simp only [List.all_cons, hl', Bool.false_and])
        have hrest : (rest.all loud.contains) = false → S w := fun _ => hSw
        by_cases hw : Region.wanted o (yielded ops a.tmps) = true
        · rw [if_pos hw] at h
          obtain ⟨v, h1, h2⟩ := h
          exact wpAnyT_first (v := v) hs hc hk.1 ho (Region.noSelect_spec hsel) (fun c a w hp => (hQ _ _ _ hp).elim) rest.length listed a w hcl (Region.free_spec ho hk.2) hr' (.inl ⟨hw, h1⟩) hSw
            (plan_sound hsel hs hc hQ rest _ _ w hB' (hcl.set hr') hrest h2)
        · rw [if_neg hw] at h
          exact wpAnyT_first (v := undef) hs hc hk.1 ho (Region.noSelect_spec hsel) (fun c a w hp => (hQ _ _ _ hp).elim) rest.length listed a w hcl (Region.free_spec ho hk.2) hr' (.inr ⟨by simpa using hw, rfl⟩) hSw
            (plan_sound hsel hs hc hQ rest _ _ w hB' (hcl.set hr') hrest h)

/-- What is asked behind a region: it ends as a region does, or the process has outgrown its memory. -/
def Ends (Q : Exit → Act → World → Prop) : Exit → Act → World → Prop
  | .normal, a, w => Q .normal a w
  | .outgrown, a, w => Q .outgrown a w
  | _, _, _ => False

theorem closed_none (m : Nat) : Closed md ops (Array.replicate m false) := by
  intro j i h
  exfalso
  rcases Nat.lt_or_ge j m with hj | hj
  · simp [hj] at h
  · simp [hj] at h

/-- ONE PLAN SERVES EVERY ORDER. -/
theorem wp_region_plan {id : Nat} {a : Act} {w : World} {l : List Oper} (n : Nat) (loud order : List Nat) (S : World → Prop) (hm : P.follows .mixedOrders = true) (hB : planOK .any l.toArray n loud order = true)
    (hS : S w.drew) (h : wpPlan P l.toArray (Ends Q) S n loud order a w.drew) : (Code.region id l.toArray true).wp P Q a w := by
  simp only [planOK, Bool.and_eq_true, beq_iff_eq] at hB
  obtain ⟨⟨⟨⟨h1, h2⟩, h3⟩, h4⟩, h5⟩ := hB
  have h6 := plan_sound (P := P) (Q := Ends Q) h1 h2 h3 (fun _ _ _ hp => hp) order _ a w.drew h5 (closed_none _) (fun _ => hS) h
  rw [h4] at h6
  exact Code.wp_mono (fun e a w q => by cases e <;> first | exact q | exact q.elim) (wp_region_any hm (wpAny_of_T _ _ _ _ h6))

section steps
variable {loud rest : List Nat} {i : Nat} {o : Oper} {a : Act} {w : World}
theorem plan_end (h : Q .normal a w) : wpPlan P ops (Ends Q) S n loud [] a w := h
theorem plan_q (ho : ops[i]? = some o) (hl : loud.contains i = false) (hw : Region.wanted o (yielded ops a.tmps) = true) (v : Value) (hrun : ∀ x, S x → (execOp a.eval o).run P x = .ok (.value v) x)
    (h : wpPlan P ops Q S n loud rest (a.put o.dst v) w) : wpPlan P ops Q S n loud (i :: rest) a w := by
  simp only [wpPlan, ho, hl, Bool.false_eq_true, if_false, hw, if_true]
  exact ⟨v, hrun, h⟩
theorem plan_skip (ho : ops[i]? = some o) (hw : Region.wanted o (yielded ops a.tmps) = false) (h : wpPlan P ops Q S n loud rest (a.put o.dst undef) w) (hl : loud.contains i = false) : wpPlan P ops Q S n loud (i :: rest) a w := by
  simp only [wpPlan, ho, hl, Bool.false_eq_true, if_false, hw]
  exact h
/-- by the walk's own simp: what is yielded is found by running it in whatever world -/
theorem plan_pure (ho : ops[i]? = some o) (hl : loud.contains i = false)
    (h : ∀ K : Act → Prop, (∀ a', wpPlan P ops Q S n loud rest a' w → K a') → if Region.wanted o (yielded ops a.tmps) then (∃ v, (∀ x : { x // S x }, (execOp a.eval o).run P x.1 = .ok (.value v) x.1) ∧ K (a.put o.dst v)) else K (a.put o.dst undef)) :
    wpPlan P ops Q S n loud (i :: rest) a w := by
  simp only [wpPlan, ho, hl, Bool.false_eq_true, if_false]
  have h1 := h _ (fun _ h => h)
  split
  · rename_i hw
    rw [if_pos hw] at h1
    obtain ⟨v, h2, h3⟩ := h1
    exact ⟨v, fun x hx => h2 ⟨x, hx⟩, h3⟩
  · rename_i hw
    rw [if_neg hw] at h1
    exact h1
theorem plan_l (ho : ops[i]? = some o) (hl : loud.contains i = true) (hw : Region.wanted o (yielded ops a.tmps) = true)
    (h : ∀ K : Act → World → Prop, (∀ a' w', (i < n → S w') → wpPlan P ops Q S n loud rest a' w' → K a' w') → o.wp P a w K Q) : wpPlan P ops Q S n loud (i :: rest) a w := by
  simp only [wpPlan, ho, hl, if_true, wpOp, hw]
  exact .inl (h _ (fun _ _ h1 h2 => ⟨h1, h2⟩))
end steps
end
end Go.Dk

/- What a hasher holds when it has taken a text; blocks; plain laws. -/
namespace Go.Dk
open Go
theorem add32_lt (a b : Nat) : add32 a b < 4294967296 := Nat.mod_lt _ (by decide)
theorem compress_length (st : List Nat) (bs : List UInt8) : (compress st bs).length = 8 := by simp [compress]
theorem compress_lt (st : List Nat) (bs : List UInt8) : ∀ x ∈ compress st bs, x < 4294967296 := by
  intro x hx
  simp only [compress, List.mem_map] at hx
  obtain ⟨i, _, rfl⟩ := hx
  exact add32_lt _ _
theorem blocks_length (n : Nat) (st : List Nat) (bs : List UInt8) (h : st.length = 8) : (blocks n st bs).length = 8 := by
  induction n generalizing st bs with
  | zero => exact h
  | succ n ih => exact ih _ _ (compress_length _ _)
theorem blocks_lt (n : Nat) (st : List Nat) (bs : List UInt8) (h : ∀ x ∈ st, x < 4294967296) : ∀ x ∈ blocks n st bs, x < 4294967296 := by
  induction n generalizing st bs with
  | zero => exact h
  | succ n ih => exact ih _ _ (compress_lt _ _)
theorem blocks_end (n : Nat) (st : List Nat) (bs : List UInt8) : blocks (n + 1) st bs = compress (blocks n st bs) ((bs.drop (64 * n)).take 64) := by
  induction n generalizing st bs with
  | zero => simp [blocks]
  | succ n ih =>
    have h1 : blocks (n + 1 + 1) st bs = blocks (n + 1) (compress st (bs.take 64)) (bs.drop 64) := rfl
    have h2 : blocks (n + 1) st bs = blocks n (compress st (bs.take 64)) (bs.drop 64) := rfl
    rw [h1, ih, h2, List.drop_drop, show 64 + 64 * n = 64 * (n + 1) by omega]
theorem blocks_prefix (n : Nat) (st : List Nat) (a b : List UInt8) (h : 64 * n ≤ a.length) : blocks n st (a ++ b) = blocks n st a := by
  induction n generalizing st a with
  | zero => rfl
  | succ n ih =>
    show blocks n (compress st ((a ++ b).take 64)) ((a ++ b).drop 64) = blocks n (compress st (a.take 64)) (a.drop 64)
    rw [List.take_append_of_le_length (by omega), List.drop_append_of_le_length (by omega)]
    exact ih _ _ (by simp; omega)
theorem init8_lt : ∀ x ∈ init8, x < 4294967296 := by decide

def wc (l : List Nat) : List Value := l.map fun x : Nat => Value.int .u32 (x : Int)
theorem wc_length (l : List Nat) : (wc l).length = l.length := by simp [wc]
theorem wc_at {l : List Nat} {i : Nat} (h : i < l.length) : (wc l)[i]? = some (.int .u32 (wAt l i : Nat)) := by simp [wc, wAt, h]

/-- a hasher's cells -/
def hcells (st : List Nat) (rest : List UInt8) (n : Nat) : List Value := wc st ++ (dc rest ++ [.int .u64 (n : Int)])
section
variable {st st' : List Nat} {rest rest' : List UInt8} {n n' : Nat}
theorem hcells_length (h : st.length = 8) (h' : rest.length = 64) : (hcells st rest n).length = 73 := by simp [hcells, wc_length, dc_length, h, h']
theorem hcells_n (h : st.length = 8) (h' : rest.length = 64) : (hcells st rest n)[72]? = some (.int .u64 (n : Int)) := by
  unfold hcells
  rw [List.getElem?_append_right (by rw [wc_length, h]; decide), wc_length, h, List.getElem?_append_right (by rw [dc_length, h']; decide), dc_length, h']
  rfl
theorem hcells_set_n (h : st.length = 8) (h' : rest.length = 64) : (hcells st rest n).set 72 (.int .u64 (n' : Int)) = hcells st rest n' := by
  unfold hcells
  rw [List.set_append, if_neg (by rw [wc_length, h]; decide), wc_length, h, List.set_append, if_neg (by rw [dc_length, h']; decide), dc_length, h']
  rfl
theorem hcells_st (h : st.length = 8) : ((hcells st rest n).drop 0).take 8 = wc st := by
  unfold hcells
  rw [List.drop_zero, List.take_append_of_le_length (by rw [wc_length, h]; decide), List.take_of_length_le (by rw [wc_length, h]; decide)]
theorem hcells_put_st (h : st.length = 8) (h2 : st'.length = 8) : splice (hcells st rest n) 0 (wc st') = hcells st' rest n := by
  unfold splice hcells
  rw [wc_length, h2, List.take_zero, List.nil_append, Nat.zero_add, List.drop_append_of_le_length (by rw [wc_length, h]; decide), List.drop_of_length_le (by rw [wc_length, h]; decide), List.nil_append]
theorem hcells_st_at (h : st.length = 8) {i : Nat} (hi : i < 8) : (hcells st rest n)[0 + i]? = some (.int .u32 (wAt st i : Nat)) := by
  unfold hcells
  rw [Nat.zero_add, List.getElem?_append_left (by rw [wc_length, h]; exact hi), wc_at (by rw [h]; exact hi)]
theorem hcells_rest (h : st.length = 8) (h' : rest.length = 64) : ((hcells st rest n).drop 8).take rest.length = dc rest := by
  unfold hcells
  rw [List.drop_append_of_le_length (by rw [wc_length, h]; decide), List.drop_of_length_le (by rw [wc_length, h]; decide), List.nil_append, List.take_append_of_le_length (by rw [dc_length, h']; decide), List.take_of_length_le (by rw [dc_length]; exact Nat.le_refl _)]
/-- bytes written into the rest -/
def put (rest : List UInt8) (o : Nat) (l : List UInt8) : List UInt8 := rest.take o ++ l ++ rest.drop (o + l.length)
theorem put_length {o : Nat} {l : List UInt8} (h : o + l.length ≤ rest.length) : (put rest o l).length = rest.length := by simp [put]; omega
theorem hcells_put {o : Nat} {l : List UInt8} (h : st.length = 8) (h' : rest.length = 64) (hl : o + l.length ≤ 64) : splice (hcells st rest n) (8 + o) (dc l) = hcells st (put rest o l) n := by
  unfold splice hcells put
  rw [dc_append, dc_append, dc_length]
  rw [List.take_append, wc_length, h, show 8 + o - 8 = o by omega, List.take_of_length_le (by rw [wc_length, h]; omega), List.take_append_of_le_length (by rw [dc_length, h']; omega), dc_take]
  rw [List.drop_append, wc_length, h, List.drop_of_length_le (by rw [wc_length, h]; omega), List.nil_append, show 8 + o + l.length - 8 = o + l.length by omega, List.drop_append_of_le_length (by rw [dc_length, h']; omega), dc_drop]
  simp only [List.append_assoc]
end

/-- a hasher that has taken m -/
def HS (m : List UInt8) (cs : List Value) : Prop :=
  ∃ rest : List UInt8, rest.length = 64 ∧ rest.take (m.length % 64) = m.drop (m.length / 64 * 64) ∧ cs = hcells (blocks (m.length / 64) init8 m) rest m.length
theorem HS.new : HS [] (hcells init8 (List.replicate 64 0) 0) := ⟨List.replicate 64 0, by simp, by simp, rfl⟩
/-- the last piece, behind whole blocks -/
theorem HS.tail (m l : List UInt8) (rest : List UInt8) (hr : rest.length = 64) (hm : m.length % 64 = 0) (hl : l.length < 64) :
    HS (m ++ l) (hcells (blocks (m.length / 64) init8 m) (put rest 0 l) (m.length + l.length)) := by
  have e1 : (m ++ l).length / 64 = m.length / 64 := by rw [List.length_append]; omega
  have e2 : (m ++ l).length % 64 = l.length := by rw [List.length_append]; omega
  have e3 : m.length / 64 * 64 = m.length := by omega
  refine ⟨put rest 0 l, by rw [put_length (by omega), hr], ?_, ?_⟩
  · rw [e2, e1, e3]
    simp [put]
  · rw [e1, blocks_prefix _ _ _ _ (by omega), List.length_append]
/-- a piece that fills no block -/
theorem HS.part (m l : List UInt8) (rest : List UInt8) (hr : rest.length = 64) (ht : rest.take (m.length % 64) = m.drop (m.length / 64 * 64)) (hl : m.length % 64 + l.length < 64) :
    HS (m ++ l) (hcells (blocks (m.length / 64) init8 m) (put rest (m.length % 64) l) (m.length + l.length)) := by
  have e1 : (m ++ l).length / 64 = m.length / 64 := by rw [List.length_append]; omega
  have e2 : (m ++ l).length % 64 = m.length % 64 + l.length := by rw [List.length_append]; omega
  refine ⟨put rest (m.length % 64) l, by rw [put_length (by omega), hr], ?_, ?_⟩
  · rw [e2, e1, List.drop_append_of_le_length (by omega), ← ht]
    unfold put
    rw [List.take_append_of_le_length (by simp; omega), List.take_of_length_le (by simp; omega)]
  · rw [e1, blocks_prefix _ _ _ _ (by omega), List.length_append]
/-- a piece that fills the block -/
theorem fills (m l : List UInt8) (rest : List UInt8) (hr : rest.length = 64) (ht : rest.take (m.length % 64) = m.drop (m.length / 64 * 64)) (hl : m.length % 64 + l.length = 64) :
    compress (blocks (m.length / 64) init8 m) (put rest (m.length % 64) l) = blocks ((m ++ l).length / 64) init8 (m ++ l) ∧ (m ++ l).length % 64 = 0 := by
  have e1 : (m ++ l).length / 64 = m.length / 64 + 1 := by rw [List.length_append]; omega
  refine ⟨?_, by rw [List.length_append]; omega⟩
  rw [e1, blocks_end, blocks_prefix _ _ _ _ (by omega)]
  congr 1
  have h1 : put rest (m.length % 64) l = m.drop (m.length / 64 * 64) ++ l := by
    unfold put
    have h2 : rest.drop 64 = [] := List.drop_of_length_le (by omega)
    rw [ht, hl, h2, List.append_nil]
  rw [h1, List.drop_append_of_le_length (by omega), List.take_of_length_le (by simp; omega), Nat.mul_comm]
/-- one block more -/
theorem block_more (m l : List UInt8) (j : Nat) (hm : m.length % 64 = 0) :
    compress (blocks (m.length / 64 + j) init8 (m ++ l)) ((l.drop (64 * j)).take 64) = blocks (m.length / 64 + (j + 1)) init8 (m ++ l) := by
  rw [← Nat.add_assoc, blocks_end]
  congr 2
  have h2 : m.drop (64 * (m.length / 64 + j)) = [] := List.drop_of_length_le (by omega)
  rw [List.drop_append, h2, List.nil_append]
  congr 1
  omega
end Go.Dk

/- The walk of turn, right and take: one block taken in. -/
namespace Go.Proofs.YtpomngkcfbnjoaaDoor
open Go.RowKit Go.Dk

theorem ret_int {k : IntKind} {a b : Int} (h : a = b) : Ending.returned (.int k a) = .returned (.int k b) := by rw [h]
theorem rotr_int (x n : Nat) (hx : x < 4294967296) : bits .or .u32 ((x : Int) / 2 ^ n) ((x : Int) * 2 ^ (32 - n) % 4294967296) = (rotr x n : Nat) := by
  have h1 : x / 2 ^ n < 4294967296 := Nat.lt_of_le_of_lt (Nat.div_le_self _ _) hx
  have h2 : x * 2 ^ (32 - n) % 4294967296 < 4294967296 := Nat.mod_lt _ (by decide)
  have := u32_or_nat (x / 2 ^ n) (x * 2 ^ (32 - n) % 4294967296) h1 h2
  rw [rotr, ← this]
  congr 1 <;> simp [Int.natCast_ediv, Int.natCast_emod, Int.natCast_mul, Int.natCast_pow]

set_option maxHeartbeats 400000 in
theorem turn_any (x n : Nat) (hx : x < 4294967296) (hn : 0 < n) (h32 : n < 32) (w : World) :
    Calls Tryd.prog 104 #[.int .u32 x, .int .i64 n] w fun e w' => e = .returned (.int .u32 (rotr x n : Nat)) ∧ ∃ k, w' = w.drewN k := by
  have hr := Lib.hid (rotr_int x n hx)
  go_enter Tryd.func104, Tryd.ntmps104
  go_wp2
  go_quiet (fail)
  go_wp2
  go_ret
  exact ⟨ret_int hr.out, nq, rfl⟩
theorem turn_at (x : Nat) (m : Int) (n : Nat) (hm : m = n) (hx : x < 4294967296) (hn : 0 < n) (h32 : n < 32) (w : World) :
    Calls Tryd.prog 104 #[.int .u32 x, .int .i64 m] w fun e w' => e = .returned (.int .u32 (rotr x n : Nat)) ∧ ∃ k, w' = w.drewN k := by
  subst hm; exact turn_any x n hx hn h32 w
theorem zero108 : zeroIs Tryd.prog 158 (.agg (wc (List.replicate 64 0)).toArray) := by unfold zeroIs; kernel_rfl
/-- the table's cells -/
def Tab (w : World) : Prop := ∀ i, i < 64 → w.cell? ⟨0, i, none⟩ = some (.int .u32 (wAt ks i : Nat))
theorem Tab.lt {w : World} (h : Tab w) : 0 < w.heap.size := by
  have h0 := h 0 (by decide)
  unfold World.cell? at h0
  rcases Nat.eq_zero_or_pos w.heap.size with h1 | h1
  · have h2 : w.heap[0]? = none := Array.getElem?_eq_none (by omega)
    simp [h2] at h0
  · exact h1

/-- words so far, zeros behind them -/
def filled (l : List Nat) : List Value := wc (l ++ List.replicate (64 - l.length) 0)

theorem words_length (k : Nat) (bs : List UInt8) : (words k bs).length = k := by induction k <;> simp [words, *]
theorem wrap_u32_byte (b : UInt8) : IntKind.u32.wrap (b.toNat : Int) = b.toNat := by rw [IntKind.wrap_u32']; have := b.toNat_lt; omega
theorem word_int (a b c d : UInt8) : bits .or .u32 (bits .or .u32 (bits .or .u32 (IntKind.u32.wrap (IntKind.u32.wrap (a.toNat : Int) * 16777216)) (IntKind.u32.wrap (IntKind.u32.wrap (b.toNat : Int) * 65536))) (IntKind.u32.wrap (IntKind.u32.wrap (c.toNat : Int) * 256)))
    (IntKind.u32.wrap (d.toNat : Int)) = (word a b c d : Nat) := by
  have ha := a.toNat_lt
  have hb := b.toNat_lt
  have hc := c.toNat_lt
  have hd := d.toNat_lt
  have e1 : IntKind.u32.wrap ((a.toNat : Int) * 16777216) = ((a.toNat * 2 ^ 24 : Nat) : Int) := by rw [IntKind.wrap_u32']; omega
  have e2 : IntKind.u32.wrap ((b.toNat : Int) * 65536) = ((b.toNat * 2 ^ 16 : Nat) : Int) := by rw [IntKind.wrap_u32']; omega
  have e3 : IntKind.u32.wrap ((c.toNat : Int) * 256) = ((c.toNat * 2 ^ 8 : Nat) : Int) := by rw [IntKind.wrap_u32']; omega
  simp only [wrap_u32_byte, e1, e2, e3]
  have h1 : a.toNat * 2 ^ 24 ||| b.toNat * 2 ^ 16 < 2 ^ 32 := Nat.or_lt_two_pow (by omega) (by omega)
  have h2 : (a.toNat * 2 ^ 24 ||| b.toNat * 2 ^ 16) ||| c.toNat * 2 ^ 8 < 2 ^ 32 := Nat.or_lt_two_pow h1 (by omega)
  rw [u32_or_nat _ _ (by omega) (by omega), u32_or_nat _ _ h1 (by omega), u32_or_nat _ _ h2 (by omega)]
  rfl
theorem filled_length (l : List Nat) (h : l.length ≤ 64) : (filled l).length = 64 := by simp [filled, wc]; omega
theorem filled_set (l : List Nat) (v : Nat) (h : l.length < 64) : (filled l).set l.length (.int .u32 (v : Int)) = filled (l ++ [v]) := by
  unfold filled wc
  have e : List.replicate (64 - l.length) 0 = 0 :: List.replicate (64 - (l ++ [v]).length) 0 := by
    rw [List.length_append, List.length_singleton, show 64 - l.length = (64 - (l.length + 1)) + 1 by omega, List.replicate_succ]
  rw [e]
  simp
theorem words_set (k : Nat) (bs : List UInt8) (hk : k < 16) : (filled (words k bs)).set k (.int .u32 (word (bAt bs (4 * k)) (bAt bs (4 * k + 1)) (bAt bs (4 * k + 2)) (bAt bs (4 * k + 3)) : Nat)) = filled (words (k + 1) bs) := by
  have := filled_set (words k bs) (word (bAt bs (4 * k)) (bAt bs (4 * k + 1)) (bAt bs (4 * k + 2)) (bAt bs (4 * k + 3))) (by rw [words_length]; omega)
  rw [words_length] at this
  exact this
theorem val_u32 {a b : Int} (h : a = b) : Value.int .u32 a = .int .u32 b := by rw [h]
theorem size80 : (Tryd.prog.info? 131).map (·.size) = some 1 := by kernel_rfl

theorem rotr_lt (x n : Nat) (hx : x < 4294967296) : rotr x n < 4294967296 := by
  have h1 : x / 2 ^ n < 2 ^ 32 := Nat.lt_of_le_of_lt (Nat.div_le_self _ _) hx
  exact Nat.or_lt_two_pow h1 (Nat.mod_lt _ (by decide))
theorem word_lt (a b c d : UInt8) : word a b c d < 4294967296 := by
  have ha := a.toNat_lt
  have hb := b.toNat_lt
  have hc := c.toNat_lt
  have hd := d.toNat_lt
  have h1 : a.toNat * 2 ^ 24 ||| b.toNat * 2 ^ 16 < 2 ^ 32 := Nat.or_lt_two_pow (by omega) (by omega)
  have h2 : (a.toNat * 2 ^ 24 ||| b.toNat * 2 ^ 16) ||| c.toNat * 2 ^ 8 < 2 ^ 32 := Nat.or_lt_two_pow h1 (by omega)
  exact Nat.or_lt_two_pow h2 (by omega)
theorem words_lt (k : Nat) (bs : List UInt8) : ∀ x ∈ words k bs, x < 4294967296 := by
  induction k with
  | zero => intro x h; cases h
  | succ k ih =>
    intro x h
    simp only [words, List.mem_append, List.mem_singleton] at h
    rcases h with h | rfl
    · exact ih x h
    · exact word_lt _ _ _ _
theorem sched_lt (n : Nat) (l : List Nat) (h : ∀ x ∈ l, x < 4294967296) : ∀ x ∈ sched n l, x < 4294967296 := by
  induction n with
  | zero => exact h
  | succ n ih =>
    intro x hx
    simp only [sched, List.mem_append, List.mem_singleton] at hx
    rcases hx with hx | rfl
    · exact ih x hx
    · exact add32_lt _ _
theorem sched_length (n : Nat) (l : List Nat) : (sched n l).length = l.length + n := by
  induction n with
  | zero => rfl
  | succ n ih => simp only [sched, List.length_append, List.length_singleton, ih]; omega
theorem wAt_lt (l : List Nat) (h : ∀ x ∈ l, x < 4294967296) (i : Nat) : wAt l i < 4294967296 := by
  unfold wAt
  cases hi : l[i]? with
  | none => decide
  | some v => exact h v (List.mem_of_getElem? hi)
theorem filled_at (l : List Nat) (i : Nat) (h : i < l.length) : (filled l)[i]? = some (.int .u32 (wAt l i : Nat)) := by
  have : (filled l)[i]? = (wc l)[i]? := by
    unfold filled wc
    rw [List.map_append, List.getElem?_append_left (by simpa using h)]
  rw [this]
  simp [wc, wAt, h]
theorem sum_int (a b : Nat) : IntKind.u32.wrap ((a : Int) + b) = (add32 a b : Nat) := by rw [IntKind.wrap_u32', add32]; omega
theorem sig_int (x p q k : Nat) (hx : x < 4294967296) : bits .xor .u32 (bits .xor .u32 (rotr x p : Nat) (rotr x q : Nat)) ((x / k : Nat) : Int) = (((rotr x p ^^^ rotr x q) ^^^ (x / k) : Nat) : Int) := by
  have h1 := rotr_lt x p hx
  have h2 := rotr_lt x q hx
  have h3 : x / k < 2 ^ 32 := Nat.lt_of_le_of_lt (Nat.div_le_self _ _) hx
  rw [u32_xor_nat _ _ h1 h2, u32_xor_nat _ _ (Nat.xor_lt_two_pow (n := 32) h1 h2) h3]
theorem sched_int (u x v y : Nat) (hx : x < 4294967296) (hy : y < 4294967296) :
    IntKind.u32.wrap (IntKind.u32.wrap (IntKind.u32.wrap ((u : Int) + bits .xor .u32 (bits .xor .u32 (rotr x 7 : Nat) (rotr x 18 : Nat)) ((x : Int) / 8)) + v) + bits .xor .u32 (bits .xor .u32 (rotr y 17 : Nat) (rotr y 19 : Nat)) ((y : Int) / 1024)) =
      (add32 (add32 (add32 u (sig0 x)) v) (sig1 y) : Nat) := by
  have e1 : (x : Int) / 8 = ((x / 2 ^ 3 : Nat) : Int) := by omega
  have e2 : (y : Int) / 1024 = ((y / 2 ^ 10 : Nat) : Int) := by omega
  rw [e1, e2, sig_int x 7 18 _ hx, sig_int y 17 19 _ hy, sum_int, sum_int, sum_int]
  rfl
theorem big_int (x p q r : Nat) (hx : x < 4294967296) : bits .xor .u32 (bits .xor .u32 (rotr x p : Nat) (rotr x q : Nat)) (rotr x r : Nat) = (((rotr x p ^^^ rotr x q) ^^^ rotr x r : Nat) : Int) := by
  have h1 := rotr_lt x p hx
  have h2 := rotr_lt x q hx
  have h3 := rotr_lt x r hx
  rw [u32_xor_nat _ _ h1 h2, u32_xor_nat _ _ (Nat.xor_lt_two_pow (n := 32) h1 h2) h3]
def St.ok (s : St) : Prop := s.a < 4294967296 ∧ s.b < 4294967296 ∧ s.c < 4294967296 ∧ s.d < 4294967296 ∧ s.e < 4294967296 ∧ s.f < 4294967296 ∧ s.g < 4294967296 ∧ s.h < 4294967296
theorem ok_step {s : St} (h : St.ok s) (k w : Nat) : St.ok (s.step k w) := ⟨add32_lt _ _, h.1, h.2.1, h.2.2.1, add32_lt _ _, h.2.2.2.2.1, h.2.2.2.2.2.1, h.2.2.2.2.2.2.1⟩
theorem ok_of {l : List Nat} (h : ∀ x ∈ l, x < 4294967296) : St.ok (St.of l) := ⟨wAt_lt l h _, wAt_lt l h _, wAt_lt l h _, wAt_lt l h _, wAt_lt l h _, wAt_lt l h _, wAt_lt l h _, wAt_lt l h _⟩
theorem ok_rounds (w : List Nat) {s : St} (h : St.ok s) (t : Nat) : St.ok (rounds w s t) := by
  induction t with
  | zero => exact h
  | succ t ih => exact ok_step ih _ _
theorem ch_int (e f g : Nat) (he : e < 4294967296) (hf : f < 4294967296) (hg : g < 4294967296) :
    bits .xor .u32 (bits .and .u32 (e : Int) f) (bits .and .u32 (bits .xor .u32 (if IntKind.u32.signed = true then -1 else IntKind.u32.max) (e : Int)) g) = (chN e f g : Nat) := by
  have h1 : (if IntKind.u32.signed = true then (-1 : Int) else IntKind.u32.max) = ((4294967295 : Nat) : Int) := by decide
  have h2 : (4294967295 : Nat) ^^^ e < 2 ^ 32 := Nat.xor_lt_two_pow (by decide) he
  rw [h1, u32_and_nat e f he hf, u32_xor_nat _ e (by decide) he, u32_and_nat _ g h2 hg, u32_xor_nat _ _ (Nat.lt_of_le_of_lt Nat.and_le_left he) (Nat.lt_of_le_of_lt Nat.and_le_right hg)]
  rfl
theorem maj_int (a b c : Nat) (ha : a < 4294967296) (hb : b < 4294967296) (hc : c < 4294967296) :
    bits .xor .u32 (bits .xor .u32 (bits .and .u32 (a : Int) b) (bits .and .u32 (a : Int) c)) (bits .and .u32 (b : Int) c) = (majN a b c : Nat) := by
  have h1 : a &&& b < 2 ^ 32 := Nat.lt_of_le_of_lt Nat.and_le_left ha
  have h2 : a &&& c < 2 ^ 32 := Nat.lt_of_le_of_lt Nat.and_le_left ha
  have h3 : b &&& c < 2 ^ 32 := Nat.lt_of_le_of_lt Nat.and_le_left hb
  rw [u32_and_nat a b ha hb, u32_and_nat a c ha hc, u32_and_nat b c hb hc, u32_xor_nat _ _ h1 h2, u32_xor_nat _ _ (Nat.xor_lt_two_pow (n := 32) h1 h2) h3]
  rfl
theorem a_int (a b c d e f g h k w : Nat) (ha : a < 4294967296) (hb : b < 4294967296) (hc : c < 4294967296) (he : e < 4294967296) (hf : f < 4294967296) (hg : g < 4294967296) :
    (((((((h : Int) + bits .xor .u32 (bits .xor .u32 (rotr e 6 : Nat) (rotr e 11 : Nat)) (rotr e 25 : Nat)) % 4294967296 +
      bits .xor .u32 (bits .and .u32 (e : Int) f) (bits .and .u32 (bits .xor .u32 (if IntKind.u32.signed = true then -1 else IntKind.u32.max) (e : Int)) g)) % 4294967296 + k) % 4294967296 + w) % 4294967296 +
      (bits .xor .u32 (bits .xor .u32 (rotr a 2 : Nat) (rotr a 13 : Nat)) (rotr a 22 : Nat) + bits .xor .u32 (bits .xor .u32 (bits .and .u32 (a : Int) b) (bits .and .u32 (a : Int) c)) (bits .and .u32 (b : Int) c)) % 4294967296) % 4294967296) =
      ((St.step ⟨a, b, c, d, e, f, g, h⟩ k w).a : Nat) := by
  rw [big_int e 6 11 25 he, big_int a 2 13 22 ha, ch_int e f g he hf hg, maj_int a b c ha hb hc]
  simp only [St.step, St.x, St.y, Sig0, Sig1, add32]
  omega
theorem e_int (a b c d e f g h k w : Nat) (he : e < 4294967296) (hf : f < 4294967296) (hg : g < 4294967296) :
    ((d : Int) + (((((h : Int) + bits .xor .u32 (bits .xor .u32 (rotr e 6 : Nat) (rotr e 11 : Nat)) (rotr e 25 : Nat)) % 4294967296 +
      bits .xor .u32 (bits .and .u32 (e : Int) f) (bits .and .u32 (bits .xor .u32 (if IntKind.u32.signed = true then -1 else IntKind.u32.max) (e : Int)) g)) % 4294967296 + k) % 4294967296 + w) % 4294967296) % 4294967296 =
      ((St.step ⟨a, b, c, d, e, f, g, h⟩ k w).e : Nat) := by
  rw [big_int e 6 11 25 he, ch_int e f g he hf hg]
  simp only [St.step, St.x, Sig1, add32]
  omega
/-- the state, its first k words summed up -/
def cur (st R : List Nat) (k : Nat) : List Nat := (List.range 8).map fun i => if i < k then add32 (wAt st i) (wAt R i) else wAt st i
theorem cur_length (st R : List Nat) (k : Nat) : (cur st R k).length = 8 := by simp [cur]
theorem cur_zero (st R : List Nat) (h : st.length = 8) : cur st R 0 = st := by
  apply List.ext_getElem?
  intro i
  by_cases hi : i < 8
  · simp [cur, hi, wAt, h]
  · simp [cur, hi, h]
theorem cur_end (st R : List Nat) : cur st R 8 = (List.range 8).map fun i => add32 (wAt st i) (wAt R i) := by
  unfold cur
  apply List.map_congr_left
  intro i hi
  rw [if_pos (by simpa using hi)]
theorem cur_at (st R : List Nat) (k : Nat) (hk : k < 8) : (wc (cur st R k))[k]? = some (.int .u32 (wAt st k : Nat)) := by simp [wc, cur, hk]
theorem cur_step (st R : List Nat) (k : Nat) (hk : k < 8) : (wc (cur st R k)).set k (.int .u32 (add32 (wAt st k) (wAt R k) : Nat)) = wc (cur st R (k + 1)) := by
  apply List.ext_getElem?
  intro i
  rw [List.getElem?_set]
  by_cases h1 : k = i
  · subst h1; simp [wc, cur, hk]
  · by_cases h2 : i < 8
    · have : i < k ↔ i < k + 1 := by omega
      simp [wc, cur, h1, h2, this]
    · simp [wc, cur, h1, h2]
set_option maxRecDepth 100000 in
set_option maxHeartbeats 4000000 in
theorem take_any (w : World) (hb so : Nat) (T : TypeId) (cs : List Value) (st : List Nat) (hrow : w.heap[hb]? = some (.cells cs.toArray T (0, 0))) (hst : (cs.drop so).take 8 = wc st)
    (hl : st.length = 8) (hstlt : ∀ x ∈ st, x < 4294967296) (hso : so + 8 ≤ cs.length) (pb po c : Nat) (bs : List UInt8)
    (hst' : ∀ i, i < 8 → w.cell? ⟨hb, so + i, none⟩ = some (.int .u32 (wAt st i : Nat)))
    (hp : ∀ i, i < 64 → w.cell? ⟨pb, po + i, none⟩ = some (.int .u8 (bAt bs i).toNat)) (hpl : pb < w.heap.size) (hT : Tab w) :
    Calls Tryd.prog 91 #[.pointer (some ⟨hb, so, none⟩), .slice (some ⟨pb, po, none⟩) 64 c] w fun e w' => e = .returned (.tuple #[]) ∧ At w [(hb, T, splice cs so (wc (compress st bs)))] w' := by
  have hA0 := At.refl w
  go_enter Tryd.func91, Tryd.ntmps91
  go_wp2_with (first
    | (with_reducible refine at_alloc rfl ?_
       refine wpList_plain rfl (fun _ hK => wp_alloc rfl hA0 zero108 (fun n w1 hn hA1 => hK _ _ ?_)); clear hK
       replace hA1 : At w [(n, 158, filled [])] w1 := hA1))
  go_loopw [22] (fun i wr => ∃ k : Nat, k ≤ 16 ∧ i = .int .i64 k ∧ At w [(n, 158, filled (words k bs))] wr) (fun i _ => 16 - (intOf i).toNat)
  case atStart => exact ⟨0, by omega, rfl, hA1⟩
  case round =>
    obtain ⟨k, hk, rfl, hAr⟩ := hrel
    by_cases hlt : k < 16
    · go_wp2
      have e0 : IntKind.i64.wrap (4 * (k : Int)) = 4 * k := IntWalk.i64_in _ (by omega)
      have e1 : IntKind.i64.wrap (4 * (k : Int) + 1) = 4 * k + 1 := IntWalk.i64_in _ (by omega)
      have e2 : IntKind.i64.wrap (4 * (k : Int) + 2) = 4 * k + 2 := IntWalk.i64_in _ (by omega)
      have e3 : IntKind.i64.wrap (4 * (k : Int) + 3) = 4 * k + 3 := IntWalk.i64_in _ (by omega)
      have t0 : (4 * (k : Int)).toNat = 4 * k := by omega
      have t1 : (4 * (k : Int) + 1).toNat = 4 * k + 1 := by omega
      have t2 : (4 * (k : Int) + 2).toNat = 4 * k + 2 := by omega
      have t3 : (4 * (k : Int) + 3).toNat = 4 * k + 3 := by omega
      have l0 : 0 ≤ 4 * (k : Int) ∧ 4 * (k : Int) < 64 := by omega
      have l1 : 0 ≤ 4 * (k : Int) + 1 ∧ 4 * (k : Int) + 1 < 64 := by omega
      have l2 : 0 ≤ 4 * (k : Int) + 2 ∧ 4 * (k : Int) + 2 < 64 := by omega
      have l3 : 0 ≤ 4 * (k : Int) + 3 ∧ 4 * (k : Int) + 3 < 64 := by omega
      have l4 : (k : Int) < 64 := by omega
      haveI : Nonempty { x : World // At w [(n, 158, filled (words k bs))] x } := ⟨⟨_, hAr⟩⟩
      refine wp_region_plan 35 [35] [0,1,2,3,4,5,6,7,8,9,10,11,12,13,14,15,16,17,18,19,20,21,22,23,24,25,26,27,28,29,30,31,32,33,34,35] (At w [(n, 158, filled (words k bs))]) (by kernel_rfl) (by kernel_rfl) (hAr.drew) ?_
      refine plan_pure rfl rfl (fun K hK => ?_); go_simp; refine hK _ ?_; clear hK K
      refine plan_pure rfl rfl (fun K hK => ?_); go_simp; refine hK _ ?_; clear hK K
      refine plan_pure rfl rfl (fun K hK => ?_); go_simp; refine hK _ ?_; clear hK K
      refine plan_pure rfl rfl (fun K hK => ?_); go_simp; refine hK _ ?_; clear hK K
      refine plan_pure rfl rfl (fun K hK => ?_); go_simp; refine hK _ ?_; clear hK K
      refine plan_q rfl rfl rfl _ (fun x hx => run_load_cell (v := .int .u8 (bAt bs (4 * k)).toNat) rfl rfl ((hx.old hpl (by simp; omega) _ _).trans (hp (4 * k) (by omega))) (by kernel_rfl)) ?_
      refine plan_pure rfl rfl (fun K hK => ?_); go_simp; refine hK _ ?_; clear hK K
      refine plan_pure rfl rfl (fun K hK => ?_); go_simp; refine hK _ ?_; clear hK K
      refine plan_pure rfl rfl (fun K hK => ?_); go_simp; refine hK _ ?_; clear hK K
      refine plan_pure rfl rfl (fun K hK => ?_); go_simp; refine hK _ ?_; clear hK K
      refine plan_pure rfl rfl (fun K hK => ?_); go_simp; refine hK _ ?_; clear hK K
      refine plan_pure rfl rfl (fun K hK => ?_); go_simp; refine hK _ ?_; clear hK K
      refine plan_pure rfl rfl (fun K hK => ?_); go_simp; refine hK _ ?_; clear hK K
      refine plan_q rfl rfl rfl _ (fun x hx => run_load_cell (v := .int .u8 (bAt bs (4 * k + 1)).toNat) rfl rfl ((hx.old hpl (by simp; omega) _ _).trans (hp (4 * k + 1) (by omega))) (by kernel_rfl)) ?_
      refine plan_pure rfl rfl (fun K hK => ?_); go_simp; refine hK _ ?_; clear hK K
      refine plan_pure rfl rfl (fun K hK => ?_); go_simp; refine hK _ ?_; clear hK K
      refine plan_pure rfl rfl (fun K hK => ?_); go_simp; refine hK _ ?_; clear hK K
      refine plan_pure rfl rfl (fun K hK => ?_); go_simp; refine hK _ ?_; clear hK K
      refine plan_pure rfl rfl (fun K hK => ?_); go_simp; refine hK _ ?_; clear hK K
      refine plan_pure rfl rfl (fun K hK => ?_); go_simp; refine hK _ ?_; clear hK K
      refine plan_pure rfl rfl (fun K hK => ?_); go_simp; refine hK _ ?_; clear hK K
      refine plan_pure rfl rfl (fun K hK => ?_); go_simp; refine hK _ ?_; clear hK K
      refine plan_q rfl rfl rfl _ (fun x hx => run_load_cell (v := .int .u8 (bAt bs (4 * k + 2)).toNat) rfl rfl ((hx.old hpl (by simp; omega) _ _).trans (hp (4 * k + 2) (by omega))) (by kernel_rfl)) ?_
      refine plan_pure rfl rfl (fun K hK => ?_); go_simp; refine hK _ ?_; clear hK K
      refine plan_pure rfl rfl (fun K hK => ?_); go_simp; refine hK _ ?_; clear hK K
      refine plan_pure rfl rfl (fun K hK => ?_); go_simp; refine hK _ ?_; clear hK K
      refine plan_pure rfl rfl (fun K hK => ?_); go_simp; refine hK _ ?_; clear hK K
      refine plan_pure rfl rfl (fun K hK => ?_); go_simp; refine hK _ ?_; clear hK K
      refine plan_pure rfl rfl (fun K hK => ?_); go_simp; refine hK _ ?_; clear hK K
      refine plan_pure rfl rfl (fun K hK => ?_); go_simp; refine hK _ ?_; clear hK K
      refine plan_pure rfl rfl (fun K hK => ?_); go_simp; refine hK _ ?_; clear hK K
      refine plan_q rfl rfl rfl _ (fun x hx => run_load_cell (v := .int .u8 (bAt bs (4 * k + 3)).toNat) rfl rfl ((hx.old hpl (by simp; omega) _ _).trans (hp (4 * k + 3) (by omega))) (by kernel_rfl)) ?_
      refine plan_pure rfl rfl (fun K hK => ?_); go_simp; refine hK _ ?_; clear hK K
      refine plan_pure rfl rfl (fun K hK => ?_); go_simp; refine hK _ ?_; clear hK K
      refine plan_pure rfl rfl (fun K hK => ?_); go_simp; refine hK _ ?_; clear hK K
      refine plan_l rfl rfl rfl (fun K hK => wp_store1 (off := k) rfl hAr.drew rfl (val_u32 (word_int _ _ _ _)) 0 rfl (by rw [filled_length _ (by rw [words_length]; omega)]; omega) rfl size80 (fun w4 hA4 => hK _ _ (fun h => absurd h (by decide)) ?_))
      clear e0 e1 e2 e3 t0 t1 t2 t3
      replace hA4 : At w [(n, 158, filled (words (k + 1) bs))] w4 := by rw [← words_set k bs hlt]; exact hA4
      refine plan_end ?_
      go_wp2
      go_roundw
      case rel => exact ⟨k + 1, by omega, by go_num, hA4⟩
      case measure => simp [intOf]; omega
    · obtain rfl : k = 16 := by omega
      go_wp2
      replace hAr : At w [(n, 158, filled (sched 0 (words 16 bs)))] wr := hAr
      generalize wr = w2 at hAr
      go_loopw [6] (fun i wr => ∃ k : Nat, 16 ≤ k ∧ k ≤ 64 ∧ i = .int .i64 k ∧ At w [(n, 158, filled (sched (k - 16) (words 16 bs)))] wr) (fun i _ => 64 - (intOf i).toNat)
      case atStart => exact ⟨16, by omega, by omega, rfl, hAr⟩
      case round =>
        clear hAr hA1 hk
        obtain ⟨k, hk1, hk2, rfl, hAr⟩ := hrel
        by_cases hlt : k < 64
        · obtain ⟨V, hV⟩ : ∃ V, V = sched (k - 16) (words 16 bs) := ⟨_, rfl⟩
          have hVl : V.length = k := by rw [hV, sched_length, words_length]; omega
          have hVlt : ∀ x ∈ V, x < 4294967296 := by rw [hV]; exact sched_lt _ _ (words_lt _ _)
          have HVs := Lib.hid (show V ++ [wNext V] = sched (k + 1 - 16) (words 16 bs) by rw [hV, show k + 1 - 16 = (k - 16) + 1 by omega]; rfl)
          rw [← hV] at hAr
          clear hV
          have hx : wAt V (k - 15) < 4294967296 := wAt_lt V hVlt _
          have hy : wAt V (k - 2) < 4294967296 := wAt_lt V hVlt _
          have hxv := filled_at V (k - 15) (by omega)
          have hyv := filled_at V (k - 2) (by omega)
          have h16 := filled_at V (k - 16) (by omega)
          have h7 := filled_at V (k - 7) (by omega)
          obtain ⟨x, hxe⟩ : ∃ x, x = wAt V (k - 15) := ⟨_, rfl⟩
          obtain ⟨y, hye⟩ : ∃ y, y = wAt V (k - 2) := ⟨_, rfl⟩
          obtain ⟨u, hue⟩ : ∃ u, u = wAt V (k - 16) := ⟨_, rfl⟩
          obtain ⟨v, hve⟩ : ∃ v, v = wAt V (k - 7) := ⟨_, rfl⟩
          rw [← hxe] at hx hxv
          rw [← hye] at hy hyv
          rw [← hue] at h16
          rw [← hve] at h7
          have HN := Lib.hid (show add32 (add32 (add32 u (sig0 x)) v) (sig1 y) = wNext V by unfold wNext; rw [hVl, hxe, hye, hue, hve])
          have Hxv := Lib.hid hxv
          have Hyv := Lib.hid hyv
          have H16 := Lib.hid h16
          have H7 := Lib.hid h7
          have HVl := Lib.hid hVl
          have HVlt := Lib.hid hVlt
          clear hxe hye hue hve hxv hyv h16 h7 hVl hVlt
          have l0 : (16 : Int) ≤ k := by omega
          have l1 : (15 : Int) ≤ k := by omega
          have l2 : (7 : Int) ≤ k := by omega
          have l3 : (2 : Int) ≤ k := by omega
          have l5 : (k : Int) - 15 < 64 := by omega
          have l6 : (k : Int) - 2 < 64 := by omega
          have l7 : (k : Int) - 7 < 64 := by omega
          have l8 : (k : Int) - 16 < 64 := by omega
          have l9 : (k : Int) < 64 := by omega
          go_wp2
          have e0 : IntKind.i64.wrap ((k : Int) - 15) = (k : Int) - 15 := IntWalk.i64_in _ (by omega)
          have e1 : IntKind.i64.wrap ((k : Int) - 2) = (k : Int) - 2 := IntWalk.i64_in _ (by omega)
          have e2 : IntKind.i64.wrap ((k : Int) - 7) = (k : Int) - 7 := IntWalk.i64_in _ (by omega)
          have e3 : IntKind.i64.wrap ((k : Int) - 16) = (k : Int) - 16 := IntWalk.i64_in _ (by omega)
          have t0 : ((k : Int) - 15).toNat = k - 15 := by omega
          have t1 : ((k : Int) - 2).toNat = k - 2 := by omega
          have t2 : ((k : Int) - 7).toNat = k - 7 := by omega
          have t3 : ((k : Int) - 16).toNat = k - 16 := by omega
          haveI : Nonempty { x : World // At w [(n, 158, filled V)] x } := ⟨⟨_, hAr⟩⟩
          refine wp_region_plan 9 [9] [0,1,2,3,4,5,6,7,8,9] (At w [(n, 158, filled V)]) (by kernel_rfl) (by kernel_rfl) (hAr.drew) ?_
          refine plan_pure rfl rfl (fun K hK => ?_); go_simp; refine hK _ ?_; clear hK K
          refine plan_pure rfl rfl (fun K hK => ?_); go_simp; refine hK _ ?_; clear hK K
          refine plan_pure rfl rfl (fun K hK => ?_); go_simp; refine hK _ ?_; clear hK K
          refine plan_q rfl rfl rfl _ (fun x hx => run_load1_at rfl hx (off := k - 15) rfl 0 rfl Hxv.out (by kernel_rfl)) ?_
          refine plan_pure rfl rfl (fun K hK => ?_); go_simp; refine hK _ ?_; clear hK K
          refine plan_pure rfl rfl (fun K hK => ?_); go_simp; refine hK _ ?_; clear hK K
          refine plan_pure rfl rfl (fun K hK => ?_); go_simp; refine hK _ ?_; clear hK K
          refine plan_q rfl rfl rfl _ (fun x hx => run_load1_at rfl hx (off := k - 2) rfl 0 rfl Hyv.out (by kernel_rfl)) ?_
          refine plan_pure rfl rfl (fun K hK => ?_); go_simp; refine hK _ ?_; clear hK K
          refine plan_l rfl rfl rfl (fun K hK => ?_); go_simp
          refine hK _ _ (fun h => absurd h (by decide)) ?_; clear hK K
          refine plan_end ?_
          go_wp2_with fail
          have hA3 := hAr.drew
          generalize wr.drew = w3 at hA3 ⊢
          refine wp_region_plan 29 [6,8,20,22,29] [0,1,2,3,4,5,7,10,11,14,15,16,17,19,21,24,25,6,8,9,12,13,18,20,22,23,26,27,28,29] (At w [(n, 158, filled V)]) (by kernel_rfl) (by kernel_rfl) (hA3.drew) ?_
          refine plan_pure rfl rfl (fun K hK => ?_); go_simp; refine hK _ ?_; clear hK K
          refine plan_pure rfl rfl (fun K hK => ?_); go_simp; refine hK _ ?_; clear hK K
          refine plan_pure rfl rfl (fun K hK => ?_); go_simp; refine hK _ ?_; clear hK K
          refine plan_pure rfl rfl (fun K hK => ?_); go_simp; refine hK _ ?_; clear hK K
          refine plan_q rfl rfl rfl _ (fun x hx => run_load1_at rfl hx (off := k - 16) rfl 0 rfl H16.out (by kernel_rfl)) ?_
          refine plan_pure rfl rfl (fun K hK => ?_); go_simp; refine hK _ ?_; clear hK K
          refine plan_pure rfl rfl (fun K hK => ?_); go_simp; refine hK _ ?_; clear hK K
          refine plan_pure rfl rfl (fun K hK => ?_); go_simp; refine hK _ ?_; clear hK K
          refine plan_pure rfl rfl (fun K hK => ?_); go_simp; refine hK _ ?_; clear hK K
          refine plan_pure rfl rfl (fun K hK => ?_); go_simp; refine hK _ ?_; clear hK K
          refine plan_pure rfl rfl (fun K hK => ?_); go_simp; refine hK _ ?_; clear hK K
          refine plan_pure rfl rfl (fun K hK => ?_); go_simp; refine hK _ ?_; clear hK K
          refine plan_q rfl rfl rfl _ (fun x hx => run_load1_at rfl hx (off := k - 7) rfl 0 rfl H7.out (by kernel_rfl)) ?_
          refine plan_pure rfl rfl (fun K hK => ?_); go_simp; refine hK _ ?_; clear hK K
          refine plan_pure rfl rfl (fun K hK => ?_); go_simp; refine hK _ ?_; clear hK K
          refine plan_pure rfl rfl (fun K hK => ?_); go_simp; refine hK _ ?_; clear hK K
          refine plan_pure rfl rfl (fun K hK => ?_); go_simp; refine hK _ ?_; clear hK K
          refine plan_l rfl rfl rfl (fun K hK => ?_); go_simp
          with_reducible refine (turn_at _ 7 7 rfl hx (by decide) (by decide) _).mono ?_
          rintro e w' ⟨rfl, nq, rfl⟩
          go_simp
          refine hK _ _ (fun _ => (hA3.drewN _)) ?_; clear hK K
          refine plan_l rfl rfl rfl (fun K hK => ?_); go_simp
          with_reducible refine (turn_at _ 18 18 rfl hx (by decide) (by decide) _).mono ?_
          rintro e w' ⟨rfl, nq, rfl⟩
          go_simp
          refine hK _ _ (fun _ => (hA3.drewN _)) ?_; clear hK K
          refine plan_pure rfl rfl (fun K hK => ?_); go_simp; refine hK _ ?_; clear hK K
          refine plan_pure rfl rfl (fun K hK => ?_); go_simp; refine hK _ ?_; clear hK K
          refine plan_pure rfl rfl (fun K hK => ?_); go_simp; refine hK _ ?_; clear hK K
          refine plan_pure rfl rfl (fun K hK => ?_); go_simp; refine hK _ ?_; clear hK K
          refine plan_l rfl rfl rfl (fun K hK => ?_); go_simp
          with_reducible refine (turn_at _ 17 17 rfl hy (by decide) (by decide) _).mono ?_
          rintro e w' ⟨rfl, nq, rfl⟩
          go_simp
          refine hK _ _ (fun _ => (hA3.drewN _)) ?_; clear hK K
          refine plan_l rfl rfl rfl (fun K hK => ?_); go_simp
          with_reducible refine (turn_at _ 19 19 rfl hy (by decide) (by decide) _).mono ?_
          rintro e w' ⟨rfl, nq, rfl⟩
          go_simp
          refine hK _ _ (fun _ => (hA3.drewN _)) ?_; clear hK K
          refine plan_pure rfl rfl (fun K hK => ?_); go_simp; refine hK _ ?_; clear hK K
          refine plan_pure rfl rfl (fun K hK => ?_); go_simp; refine hK _ ?_; clear hK K
          refine plan_pure rfl rfl (fun K hK => ?_); go_simp; refine hK _ ?_; clear hK K
          refine plan_pure rfl rfl (fun K hK => ?_); go_simp; refine hK _ ?_; clear hK K
          refine plan_l rfl rfl rfl (fun K hK => wp_store1 (off := k) rfl (hA3.drewN _) rfl (v := .int .u32 ((wNext V : Nat) : Int)) (val_u32 (by rw [sched_int u x v y hx hy, HN.out])) 0 rfl (by rw [filled_length _ (by rw [HVl.out]; omega)]; omega) rfl size80 (fun w4 hA4 => hK _ _ (fun h => absurd h (by decide)) ?_))
          clear e0 e1 e2 e3 t0 t1 t2 t3
          replace hA4 : At w [(n, 158, filled (sched (k + 1 - 16) (words 16 bs)))] w4 := by
            have e := filled_set V (wNext V) (by rw [HVl.out]; exact hlt)
            rw [HVl.out] at e
            rw [← HVs.out, ← e]; exact hA4
          refine plan_end ?_

          go_wp2
          go_roundw
          case rel =>
            refine ⟨_, _, _, _, _, _, _, _, _, _, _, _, _, _, _, _, _, _, _, _, _, _, _, _, _, _, _, _, _, _, _, _, _, _, _, _, _, _, _, _, _, _, _, _, ?_, rfl⟩
            exact ⟨k + 1, by omega, by omega, by go_num, hA4⟩
          case measure => simp [intOf]; omega
        · obtain rfl : k = 64 := by omega
          replace hAr : At w [(n, 158, filled (sched 48 (words 16 bs)))] wr := hAr
          obtain ⟨Wd, hWd⟩ : ∃ Wd, Wd = sched 48 (words 16 bs) := ⟨_, rfl⟩
          have HWl := Lib.hid (show Wd.length = 64 by rw [hWd, sched_length, words_length])
          have HWlt := Lib.hid (show ∀ x ∈ Wd, x < 4294967296 by rw [hWd]; exact sched_lt _ _ (words_lt _ _))
          have HC := Lib.hid (show (List.range 8).map (fun i => add32 (wAt st i) (wAt (rounds Wd (St.of st) 64).list i)) = compress st bs by rw [hWd]; rfl)
          rw [← hWd] at hAr
          clear hWd
          go_wp2
          haveI : Nonempty { x : World // At w [(n, 158, filled Wd)] x } := ⟨⟨_, hAr⟩⟩
          have hbl : hb < w.heap.size := lt_of_row hrow
          have hbn : hb ∉ [((n, 158, filled Wd) : Row)].map (·.1) := by simp; omega
          refine wp_region_plan 39 [39] [0,1,2,3,4,5,6,7,8,9,10,11,12,13,14,15,16,17,18,19,20,21,22,23,24,25,26,27,28,29,30,31,32,33,34,35,36,37,38,39] (At w [(n, 158, filled Wd)]) (by kernel_rfl) (by kernel_rfl) (hAr.drew) ?_
          refine plan_pure rfl rfl (fun K hK => ?_); go_simp; refine hK _ ?_; clear hK K
          refine plan_pure rfl rfl (fun K hK => ?_); go_simp; refine hK _ ?_; clear hK K
          refine plan_pure rfl rfl (fun K hK => ?_); go_simp; refine hK _ ?_; clear hK K
          refine plan_q rfl rfl rfl _ (fun x hx => run_load_cell (v := .int .u32 (wAt st 0 : Nat)) rfl rfl ((hx.old hbl hbn _ _).trans (hst' 0 (by decide))) (by kernel_rfl)) ?_
          refine plan_pure rfl rfl (fun K hK => ?_); go_simp; refine hK _ ?_; clear hK K
          refine plan_pure rfl rfl (fun K hK => ?_); go_simp; refine hK _ ?_; clear hK K
          refine plan_pure rfl rfl (fun K hK => ?_); go_simp; refine hK _ ?_; clear hK K
          refine plan_q rfl rfl rfl _ (fun x hx => run_load_cell (v := .int .u32 (wAt st 1 : Nat)) rfl rfl ((hx.old hbl hbn _ _).trans (hst' 1 (by decide))) (by kernel_rfl)) ?_
          refine plan_pure rfl rfl (fun K hK => ?_); go_simp; refine hK _ ?_; clear hK K
          refine plan_pure rfl rfl (fun K hK => ?_); go_simp; refine hK _ ?_; clear hK K
          refine plan_pure rfl rfl (fun K hK => ?_); go_simp; refine hK _ ?_; clear hK K
          refine plan_q rfl rfl rfl _ (fun x hx => run_load_cell (v := .int .u32 (wAt st 2 : Nat)) rfl rfl ((hx.old hbl hbn _ _).trans (hst' 2 (by decide))) (by kernel_rfl)) ?_
          refine plan_pure rfl rfl (fun K hK => ?_); go_simp; refine hK _ ?_; clear hK K
          refine plan_pure rfl rfl (fun K hK => ?_); go_simp; refine hK _ ?_; clear hK K
          refine plan_pure rfl rfl (fun K hK => ?_); go_simp; refine hK _ ?_; clear hK K
          refine plan_q rfl rfl rfl _ (fun x hx => run_load_cell (v := .int .u32 (wAt st 3 : Nat)) rfl rfl ((hx.old hbl hbn _ _).trans (hst' 3 (by decide))) (by kernel_rfl)) ?_
          refine plan_pure rfl rfl (fun K hK => ?_); go_simp; refine hK _ ?_; clear hK K
          refine plan_pure rfl rfl (fun K hK => ?_); go_simp; refine hK _ ?_; clear hK K
          refine plan_pure rfl rfl (fun K hK => ?_); go_simp; refine hK _ ?_; clear hK K
          refine plan_q rfl rfl rfl _ (fun x hx => run_load_cell (v := .int .u32 (wAt st 4 : Nat)) rfl rfl ((hx.old hbl hbn _ _).trans (hst' 4 (by decide))) (by kernel_rfl)) ?_
          refine plan_pure rfl rfl (fun K hK => ?_); go_simp; refine hK _ ?_; clear hK K
          refine plan_pure rfl rfl (fun K hK => ?_); go_simp; refine hK _ ?_; clear hK K
          refine plan_pure rfl rfl (fun K hK => ?_); go_simp; refine hK _ ?_; clear hK K
          refine plan_q rfl rfl rfl _ (fun x hx => run_load_cell (v := .int .u32 (wAt st 5 : Nat)) rfl rfl ((hx.old hbl hbn _ _).trans (hst' 5 (by decide))) (by kernel_rfl)) ?_
          refine plan_pure rfl rfl (fun K hK => ?_); go_simp; refine hK _ ?_; clear hK K
          refine plan_pure rfl rfl (fun K hK => ?_); go_simp; refine hK _ ?_; clear hK K
          refine plan_pure rfl rfl (fun K hK => ?_); go_simp; refine hK _ ?_; clear hK K
          refine plan_q rfl rfl rfl _ (fun x hx => run_load_cell (v := .int .u32 (wAt st 6 : Nat)) rfl rfl ((hx.old hbl hbn _ _).trans (hst' 6 (by decide))) (by kernel_rfl)) ?_
          refine plan_pure rfl rfl (fun K hK => ?_); go_simp; refine hK _ ?_; clear hK K
          refine plan_pure rfl rfl (fun K hK => ?_); go_simp; refine hK _ ?_; clear hK K
          refine plan_pure rfl rfl (fun K hK => ?_); go_simp; refine hK _ ?_; clear hK K
          refine plan_q rfl rfl rfl _ (fun x hx => run_load_cell (v := .int .u32 (wAt st 7 : Nat)) rfl rfl ((hx.old hbl hbn _ _).trans (hst' 7 (by decide))) (by kernel_rfl)) ?_
          refine plan_pure rfl rfl (fun K hK => ?_); go_simp; refine hK _ ?_; clear hK K
          refine plan_pure rfl rfl (fun K hK => ?_); go_simp; refine hK _ ?_; clear hK K
          refine plan_pure rfl rfl (fun K hK => ?_); go_simp; refine hK _ ?_; clear hK K
          refine plan_pure rfl rfl (fun K hK => ?_); go_simp; refine hK _ ?_; clear hK K
          refine plan_pure rfl rfl (fun K hK => ?_); go_simp; refine hK _ ?_; clear hK K
          refine plan_pure rfl rfl (fun K hK => ?_); go_simp; refine hK _ ?_; clear hK K
          refine plan_pure rfl rfl (fun K hK => ?_); go_simp; refine hK _ ?_; clear hK K
          refine plan_l rfl rfl rfl (fun K hK => ?_); go_simp
          refine hK _ _ (fun h => absurd h (by decide)) ?_; clear hK K
          refine plan_end ?_
          go_wp2
          have hA3 := hAr.drew
          generalize wr.drew = w3 at hA3 ⊢
          go_loopw [9, 10, 11, 12, 13, 14, 15, 16, 134] (fun va vb vc vd ve vf vg vh i wr => ∃ t : Nat, t ≤ 64 ∧ i = .int .i64 t ∧ va = .int .u32 ((rounds Wd (St.of st) t).a : Nat) ∧ vb = .int .u32 ((rounds Wd (St.of st) t).b : Nat) ∧ vc = .int .u32 ((rounds Wd (St.of st) t).c : Nat) ∧ vd = .int .u32 ((rounds Wd (St.of st) t).d : Nat) ∧ ve = .int .u32 ((rounds Wd (St.of st) t).e : Nat) ∧ vf = .int .u32 ((rounds Wd (St.of st) t).f : Nat) ∧ vg = .int .u32 ((rounds Wd (St.of st) t).g : Nat) ∧ vh = .int .u32 ((rounds Wd (St.of st) t).h : Nat) ∧ At w [(n, 158, filled Wd)] wr) (fun _ _ _ _ _ _ _ _ i _ => 64 - (intOf i).toNat)
          case atStart => exact ⟨0, by omega, rfl, rfl, rfl, rfl, rfl, rfl, rfl, rfl, rfl, hA3⟩
          case round =>
            clear hAr hA3
            obtain ⟨t, ht, rfl, rfl, rfl, rfl, rfl, rfl, rfl, rfl, rfl, hAr⟩ := hrel
            by_cases hlt : t < 64
            · obtain ⟨S, hS⟩ : ∃ S, S = rounds Wd (St.of st) t := ⟨_, rfl⟩
              have hok : St.ok S := by rw [hS]; exact ok_rounds _ (ok_of hstlt) t
              have HN := Lib.hid (show S.step (wAt ks t) (wAt Wd t) = rounds Wd (St.of st) (t + 1) by rw [hS]; rfl)
              rw [← hS]
              clear hS
              obtain ⟨a, b, c', d, e, f, g, h⟩ := S
              obtain ⟨ha, hb', hc, hd, he, hf, hg, hh⟩ := hok
              have Hw := Lib.hid (filled_at Wd t (by rw [HWl.out]; exact hlt))
              have hti : (t : Int) < 64 := by omega
              go_wp2
              have hg0 : 0 < w.heap.size := hT.lt
              have hgn : 0 ∉ [((n, 158, filled Wd) : Row)].map (·.1) := by simp; omega
              haveI : Nonempty { x : World // At w [(n, 158, filled Wd)] x } := ⟨⟨_, hAr⟩⟩
              refine wp_region_plan 27 [2,4,7,27] [0,1,3,6,10,11,12,13,14,15,16,17,19,20,21,23,24,25,2,4,5,7,8,9,18,22,26,27] (At w [(n, 158, filled Wd)]) (by kernel_rfl) (by kernel_rfl) (hAr.drew) ?_
              refine plan_pure rfl rfl (fun K hK => ?_); go_simp; refine hK _ ?_; clear hK K
              refine plan_pure rfl rfl (fun K hK => ?_); go_simp; refine hK _ ?_; clear hK K
              refine plan_pure rfl rfl (fun K hK => ?_); go_simp; refine hK _ ?_; clear hK K
              refine plan_pure rfl rfl (fun K hK => ?_); go_simp; refine hK _ ?_; clear hK K
              refine plan_pure rfl rfl (fun K hK => ?_); go_simp; refine hK _ ?_; clear hK K
              refine plan_pure rfl rfl (fun K hK => ?_); go_simp; refine hK _ ?_; clear hK K
              refine plan_pure rfl rfl (fun K hK => ?_); go_simp; refine hK _ ?_; clear hK K
              refine plan_pure rfl rfl (fun K hK => ?_); go_simp; refine hK _ ?_; clear hK K
              refine plan_pure rfl rfl (fun K hK => ?_); go_simp; refine hK _ ?_; clear hK K
              refine plan_pure rfl rfl (fun K hK => ?_); go_simp; refine hK _ ?_; clear hK K
              refine plan_pure rfl rfl (fun K hK => ?_); go_simp; refine hK _ ?_; clear hK K
              refine plan_pure rfl rfl (fun K hK => ?_); go_simp; refine hK _ ?_; clear hK K
              refine plan_pure rfl rfl (fun K hK => ?_); go_simp; refine hK _ ?_; clear hK K
              refine plan_pure rfl rfl (fun K hK => ?_); go_simp; refine hK _ ?_; clear hK K
              refine plan_q rfl rfl rfl _ (fun x hx => run_load_cell (v := .int .u32 (wAt ks t : Nat)) rfl rfl ((hx.old hg0 hgn _ _).trans (hT t hlt)) (by kernel_rfl)) ?_
              refine plan_pure rfl rfl (fun K hK => ?_); go_simp; refine hK _ ?_; clear hK K
              refine plan_pure rfl rfl (fun K hK => ?_); go_simp; refine hK _ ?_; clear hK K
              refine plan_q rfl rfl rfl _ (fun x hx => run_load1_at rfl hx (off := t) rfl 0 rfl Hw.out (by kernel_rfl)) ?_
              refine plan_l rfl rfl rfl (fun K hK => ?_); go_simp
              with_reducible refine (turn_at _ 6 6 rfl he (by decide) (by decide) _).mono ?_
              rintro e' w' ⟨rfl, nq, rfl⟩
              go_simp
              refine hK _ _ (fun _ => (hAr.drewN _)) ?_; clear hK K
              refine plan_l rfl rfl rfl (fun K hK => ?_); go_simp
              with_reducible refine (turn_at _ 11 11 rfl he (by decide) (by decide) _).mono ?_
              rintro e' w' ⟨rfl, nq, rfl⟩
              go_simp
              refine hK _ _ (fun _ => (hAr.drewN _)) ?_; clear hK K
              refine plan_pure rfl rfl (fun K hK => ?_); go_simp; refine hK _ ?_; clear hK K
              refine plan_l rfl rfl rfl (fun K hK => ?_); go_simp
              with_reducible refine (turn_at _ 25 25 rfl he (by decide) (by decide) _).mono ?_
              rintro e' w' ⟨rfl, nq, rfl⟩
              go_simp
              refine hK _ _ (fun _ => (hAr.drewN _)) ?_; clear hK K
              refine plan_pure rfl rfl (fun K hK => ?_); go_simp; refine hK _ ?_; clear hK K
              refine plan_pure rfl rfl (fun K hK => ?_); go_simp; refine hK _ ?_; clear hK K
              refine plan_pure rfl rfl (fun K hK => ?_); go_simp; refine hK _ ?_; clear hK K
              refine plan_pure rfl rfl (fun K hK => ?_); go_simp; refine hK _ ?_; clear hK K
              refine plan_pure rfl rfl (fun K hK => ?_); go_simp; refine hK _ ?_; clear hK K
              refine plan_l rfl rfl rfl (fun K hK => ?_); go_simp
              refine hK _ _ (fun h => absurd h (by decide)) ?_; clear hK K
              refine plan_end ?_
              go_wp2_with (first
                | (go_at_call 104; with_reducible refine (turn_at _ 2 2 rfl ha (by decide) (by decide) _).mono ?_; rintro e' w' ⟨rfl, nq, rfl⟩)
                | (go_at_call 104; with_reducible refine (turn_at _ 13 13 rfl ha (by decide) (by decide) _).mono ?_; rintro e' w' ⟨rfl, nq, rfl⟩)
                | (go_at_call 104; with_reducible refine (turn_at _ 22 22 rfl ha (by decide) (by decide) _).mono ?_; rintro e' w' ⟨rfl, nq, rfl⟩))
              go_roundw
              case rel => exact ⟨t + 1, by omega, by go_num, by rw [← HN.out]; exact val_u32 (a_int a b c' d e f g h (wAt ks t) (wAt Wd t) ha hb' hc he hf hg), by rw [← HN.out]; rfl, by rw [← HN.out]; rfl, by rw [← HN.out]; rfl,
                by rw [← HN.out]; exact val_u32 (e_int a b c' d e f g h (wAt ks t) (wAt Wd t) he hf hg), by rw [← HN.out]; rfl, by rw [← HN.out]; rfl, by rw [← HN.out]; rfl, hAr.drewN _⟩
              case measure => simp [intOf]; omega
            · obtain rfl : t = 64 := by omega
              obtain ⟨S, hS⟩ : ∃ S, S = rounds Wd (St.of st) 64 := ⟨_, rfl⟩
              rw [← hS] at HC ⊢
              obtain ⟨R, hR⟩ : ∃ R, R = S.list := ⟨_, rfl⟩
              have hRl : R.length = 8 := by rw [hR]; rfl
              have HRc := Lib.hid (show (wc R).toArray = #[.int .u32 (S.a : Nat), .int .u32 (S.b : Nat), .int .u32 (S.c : Nat), .int .u32 (S.d : Nat), .int .u32 (S.e : Nat), .int .u32 (S.f : Nat), .int .u32 (S.g : Nat), .int .u32 (S.h : Nat)] by rw [hR]; rfl)
              rw [← hR] at HC
              have HR := Lib.hid hRl
              clear hS hR hRl
              have hAh := hAr.add hrow hbn
              have HCS := Lib.hid (show splice cs so (wc (cur st R 0)) = cs by rw [cur_zero st R hl]; exact splice_self (by rw [wc_length, hl]; exact hst))
              replace hAh : At w [(n, 158, filled Wd), (hb, T, splice cs so (wc (cur st R 0)))] wr := by rw [HCS.out]; exact hAh
              go_wp2
              go_loopw [206] (fun i wr => ∃ k : Nat, k ≤ 8 ∧ i = .int .i64 k ∧ At w [(n, 158, filled Wd), (hb, T, splice cs so (wc (cur st R k)))] wr) (fun i _ => 8 - (intOf i).toNat)
              case atStart => exact ⟨0, by omega, rfl, hAh⟩
              case round =>
                clear hAh hAr
                obtain ⟨k, hk, rfl, hAr⟩ := hrel
                have HLn := Lib.hid (show (splice cs so (wc (cur st R k))).length = cs.length from splice_length (by rw [wc_length, cur_length]; exact hso))
                by_cases hlt : k < 8
                · have Hat := Lib.hid (show (splice cs so (wc (cur st R k)))[so + k]? = some (.int .u32 (wAt st k : Nat)) by rw [splice_at (by rw [wc_length, cur_length]; exact hso) (by rw [wc_length, cur_length]; exact hlt)]; exact cur_at st R k hlt)
                  have Hstep := Lib.hid (show (splice cs so (wc (cur st R k))).set (so + k) (.int .u32 (add32 (wAt st k) (wAt R k) : Nat)) = splice cs so (wc (cur st R (k + 1))) by rw [splice_set _ (by rw [wc_length, cur_length]; exact hso) (by rw [wc_length, cur_length]; exact hlt), cur_step st R k hlt])
                  have hki : (k : Int) < 8 := by omega
                  have Hv : Hid ((#[.int .u32 (S.a : Nat), .int .u32 (S.b : Nat), .int .u32 (S.c : Nat), .int .u32 (S.d : Nat), .int .u32 (S.e : Nat), .int .u32 (S.f : Nat), .int .u32 (S.g : Nat), .int .u32 (S.h : Nat)] : Array Value)[k]? = some (.int .u32 (wAt R k : Nat))) := by
                    rw [← HRc.out]; exact (show (wc R).toArray[k]? = some (.int .u32 (wAt R k : Nat)) from by simp [wc, wAt, HR.out, hlt])
                  go_wp2_with (first
                    | (with_reducible refine at_index rfl ?_
                       refine wpList_plain rfl (fun _ hK => wp_indexArr rfl Tryd.underlying134 (by kernel_rfl) size80 rfl rfl hlt Hv.out (hK _ _ ?_)); clear hK))
                  haveI : Nonempty { x : World // At w [(n, 158, filled Wd), (hb, T, splice cs so (wc (cur st R k)))] x } := ⟨⟨_, hAr⟩⟩
                  refine wp_region_plan 9 [9] [0,1,2,3,4,5,6,7,8,9] (At w [(n, 158, filled Wd), (hb, T, splice cs so (wc (cur st R k)))]) (by kernel_rfl) (by kernel_rfl) (hAr.drew) ?_
                  refine plan_pure rfl rfl (fun K hK => ?_); go_simp; refine hK _ ?_; clear hK K
                  refine plan_pure rfl rfl (fun K hK => ?_); go_simp; refine hK _ ?_; clear hK K
                  refine plan_pure rfl rfl (fun K hK => ?_); go_simp; refine hK _ ?_; clear hK K
                  refine plan_pure rfl rfl (fun K hK => ?_); go_simp; refine hK _ ?_; clear hK K
                  refine plan_q rfl rfl rfl _ (fun x hx => run_load1_at rfl hx (off := so + k) rfl 1 rfl Hat.out (by kernel_rfl)) ?_
                  refine plan_pure rfl rfl (fun K hK => ?_); go_simp; refine hK _ ?_; clear hK K
                  refine plan_pure rfl rfl (fun K hK => ?_); go_simp; refine hK _ ?_; clear hK K
                  refine plan_pure rfl rfl (fun K hK => ?_); go_simp; refine hK _ ?_; clear hK K
                  refine plan_pure rfl rfl (fun K hK => ?_); go_simp; refine hK _ ?_; clear hK K
                  refine plan_l rfl rfl rfl (fun K hK => wp_store1 (off := so + k) rfl hAr.drew rfl (val_u32 (sum_int _ _)) 1 rfl (by rw [HLn.out]; omega) rfl size80 (fun w4 hA4 => hK _ _ (fun h => absurd h (by decide)) ?_))
                  replace hA4 : At w [(n, 158, filled Wd), (hb, T, splice cs so (wc (cur st R (k + 1))))] w4 := by rw [← Hstep.out]; exact hA4
                  refine plan_end ?_
                  go_wp2
                  go_roundw
                  case rel =>
                    refine ⟨_, _, _, _, _, _, _, _, _, _, _, _, _, _, _, _, ?_, rfl⟩
                    exact ⟨k + 1, by omega, by go_num, hA4⟩
                  case measure => simp [intOf]; omega
                · obtain rfl : k = 8 := by omega
                  replace hAr : At w [(n, 158, filled Wd), (hb, T, splice cs so (wc (compress st bs)))] wr := by rw [← HC.out, ← cur_end]; exact hAr
                  go_wp2
                  go_end0
                  exact ⟨rfl, hAr.drop (List.Sublist.cons _ (List.Sublist.refl _)) (fun r hr hlt' => by
                    simp only [List.mem_cons, List.not_mem_nil, or_false] at hr
                    rcases hr with rfl | rfl
                    · simp only at hlt'; omega
                    · simp)⟩
end Go.Proofs.YtpomngkcfbnjoaaDoor

/- The walks of begin, New, Write, Sum, Fork: a hasher. -/
namespace Go.Proofs.YtpomngkcfbnjoaaDoor
open Go.RowKit Go.Dk

theorem zero82 : zeroIs Tryd.prog 143 (.agg (wc (List.replicate 8 0)).toArray) := by unfold zeroIs; kernel_rfl
theorem row82 : isRow Tryd.prog 143 8 = true := by kernel_rfl
theorem size82 : (Tryd.prog.info? 143).map (·.size) = some 8 := by kernel_rfl
theorem row87 : isRow Tryd.prog 147 73 = true := by kernel_rfl
theorem build_begin (w : World) : (Instr.build 143 #[(0, .int .u32 1779033703), (1, .int .u32 3144134277), (2, .int .u32 1013904242), (3, .int .u32 2773480762), (4, .int .u32 1359893119), (5, .int .u32 2600822924), (6, .int .u32 528734635), (7, .int .u32 1541459225)]).run Tryd.prog w = .ok (.agg (wc init8).toArray) w := by kernel_rfl
theorem build_new (w : World) : (Instr.build 147 #[(0, .agg (wc init8).toArray)]).run Tryd.prog w = .ok (.agg (hcells init8 (List.replicate 64 0) 0).toArray) w := by kernel_rfl
theorem wc_one (D : List Nat) : ∀ v ∈ (wc D).toArray, v.oneCell' = true := by
  intro v hv
  simp only [wc, List.mem_toArray, List.mem_map] at hv
  obtain ⟨b, _, rfl⟩ := hv
  rfl

set_option maxRecDepth 100000 in
set_option maxHeartbeats 400000 in
theorem begin_any (w : World) : Calls Tryd.prog 90 #[] w fun e w' => e = .returned (.agg (wc init8).toArray) ∧ At w [] w' := by
  have hA0 := At.refl w
  go_enter Tryd.func90, Tryd.ntmps90
  go_wp2_with (first
    | (with_reducible refine at_alloc rfl ?_
       refine wpList_plain rfl (fun _ hK => wp_alloc rfl hA0 zero82 (fun n w1 hn hA1 => hK _ _ ?_)); clear hK
       replace hA1 : At w [(n, 143, wc (List.replicate 8 0))] w1 := hA1)
    | (with_reducible refine at_build rfl ?_
       refine wpList_plain rfl (fun _ hK => wp_build rfl (build_begin _) (hK _ _ ?_)); clear hK)
    | (with_reducible refine at_store rfl ?_
       refine wpList_plain rfl (fun _ hK => wp_storeRow (off := 0) (new := (wc init8).toArray) rfl hA1 rfl rfl 0 rfl (by decide) (wc_one _) (by rw [size82]; rfl) (fun w2 hA2 => hK _ _ ?_)); clear hK
       replace hA2 : At w [(n, 143, wc init8)] w2 := hA2))
  refine bodyPost_ret (results_cell Tryd.results90 hA2 rfl 0 rfl row82) rfl ⟨rfl, hA2.clear (fun r hr => ?_)⟩
  simp only [List.mem_cons, List.not_mem_nil, or_false] at hr
  subst hr
  exact hn

/-- a new hasher that has taken m -/
def NewH (w : World) (m : List UInt8) (e : Ending) (w' : World) : Prop := ∃ n cs, e = .returned (.pointer (some ⟨n, 0, none⟩)) ∧ w.heap.size ≤ n ∧ HS m cs ∧ At w [(n, 147, cs)] w'

set_option maxRecDepth 100000 in
set_option maxHeartbeats 400000 in
theorem new_any (w : World) : Calls Tryd.prog 61 #[] w (NewH w []) := by
  have hA0 := At.refl w
  go_enter Tryd.func61, Tryd.ntmps61
  go_wp2_with (first
    | (go_at_call 90
       refine (begin_any _).mono ?_
       rintro e w1 ⟨rfl, hc⟩
       have hA1 := hA0.then0 hc
       clear hc)
    | (with_reducible refine at_build rfl ?_
       refine wpList_plain rfl (fun _ hK => wp_build rfl (build_new _) (hK _ _ ?_)); clear hK)
    | (with_reducible refine at_box rfl ?_
       refine wpList_plain rfl (fun _ hK => wp_box (v := .agg (hcells init8 (List.replicate 64 0) 0).toArray) rfl hA1 rfl (fun n w2 hn hA2 => hK _ _ ?_)); clear hK
       replace hA2 : At w [(n, 147, hcells init8 (List.replicate 64 0) 0)] w2 := hA2))
  go_ret
  have h1 := hA1.size
  exact ⟨n, _, rfl, by omega, HS.new, hA2⟩
end Go.Proofs.YtpomngkcfbnjoaaDoor

/- The walk of Write: a piece taken by a hasher. -/
namespace Go.Proofs.YtpomngkcfbnjoaaDoor
open Go.RowKit Go.Dk

theorem Tab.at_ {w0 w : World} {L : List Row} (h : Tab w0) (hA : At w0 L w) (hn : 0 ∉ L.map (·.1)) : Tab w := fun i hi => by
  rw [hA.old h.lt hn]; exact h i hi
theorem size5 : (Tryd.prog.info? 5).map (·.size) = some 1 := by kernel_rfl
theorem size85 : (Tryd.prog.info? 129).map (·.size) = some 1 := by kernel_rfl
theorem no85 : notRow Tryd.prog 129 = true := by kernel_rfl
theorem val_u64 {a b : Int} (h : a = b) : Value.int .u64 a = .int .u64 b := by rw [h]
def Wrote (w : World) (hb : Nat) (m : List UInt8) (e : Ending) (w' : World) : Prop := e = .returned (.tuple #[]) ∧ ∃ cs, HS m cs ∧ At w [(hb, 147, cs)] w'

/-- one block taken in, by a hasher -/
theorem take_row (w0 x : World) (hb : Nat) (st : List Nat) (rest : List UInt8) (n : Nat) (hA : At w0 [(hb, 147, hcells st rest n)] x) (hst : st.length = 8) (hlt : ∀ y ∈ st, y < 4294967296) (hr : rest.length = 64)
    (A : Option Addr) (bs : List UInt8) (c : Nat) (hB : Bts x A bs) (hl : bs.length = 64) (hT : Tab x) :
    Calls Tryd.prog 91 #[.pointer (some ⟨hb, 0, none⟩), .slice A 64 c] x fun e w' => e = .returned (.tuple #[]) ∧ At w0 [(hb, 147, hcells (compress st bs) rest n)] w' := by
  obtain ⟨pb, po, rfl, hpb, hcell⟩ := hB (fun e => by rw [e] at hl; exact absurd hl (by decide))
  have hrow : x.heap[hb]? = some (.cells (hcells st rest n).toArray 147 (0, 0)) := hA.row (k := 0) rfl
  refine (take_any x hb 0 147 _ st hrow (hcells_st hst) hst hlt (by rw [hcells_length hst hr]; decide) pb po c bs
    (fun i hi => (hA.cell (k := 0) rfl _).trans (hcells_st_at hst hi)) (fun i hi => hcell i (by omega)) hpb hT).mono ?_
  rintro e w' ⟨he, hA'⟩
  refine ⟨he, ?_⟩
  rw [hcells_put_st hst (compress_length _ _)] at hA'
  exact hA.then1 (k := 0) rfl hA'
set_option maxRecDepth 100000 in
set_option maxHeartbeats 8000000 in
theorem write_any (w : World) (hb : Nat) (m : List UInt8) (cs : List Value) (hH : HS m cs) (hrow : w.heap[hb]? = some (.cells cs.toArray 147 (0, 0))) (A : Option Addr) (l : List UInt8) (c : Nat)
    (hr : Bts w A l) (hc : l.length ≤ c) (hoff : Off A hb) (hsz : m.length + l.length < 1152921504606846976) (hT : Tab w) (hb0 : hb ≠ 0) :
    Calls Tryd.prog 62 #[.pointer (some ⟨hb, 0, none⟩), .slice A l.length c] w (Wrote w hb (m ++ l)) := by
  obtain ⟨rest, hrl, hrt, rfl⟩ := hH
  have hA0 := At.start1 hrow
  have hTa : ∀ (L : List Value) (x : World), At w [(hb, 147, L)] x → Tab x := fun L x hx => hT.at_ hx (by simpa using hb0.symm)
  by_cases h0 : m.length % 64 = 0
  · have e1 : (m.length : Int) % 64 = 0 := by omega
    have HN0 := Lib.hid (hcells_n (n := m.length) (blocks_length (m.length / 64) init8 m rfl) hrl)
    have H0 := Lib.hid h0
    have Hrl := Lib.hid hrl
    obtain ⟨m1, Hm1⟩ : ∃ m1, Hid (m1 = m) := ⟨m, rfl⟩
    obtain ⟨l1, Hl1⟩ : ∃ l1, Hid (l1 = l) := ⟨l, rfl⟩
    clear hrl h0 hrt hrow
    go_enter Tryd.func62, Tryd.ntmps62
    go_wp2_with (first
      | (with_reducible refine at_load rfl ?_
         refine wpList_plain rfl (fun _ hK => wp_load1 (off := 72) rfl hA0 rfl 0 rfl HN0.out no85 (hK _ _ ?_)); clear hK))
    have hE : Hid (m1 ++ l1 = m ++ l) := by rw [Hm1.out, Hl1.out]; exact rfl
    have HM0 : Hid (m1.length % 64 = 0) := by rw [Hm1.out]; exact H0.out
    have hsz1 : m1.length + l1.length < 1152921504606846976 := by rw [Hm1.out, Hl1.out]; exact hsz
    obtain ⟨R1, HR1e⟩ : ∃ R1, Hid (R1 = rest) := ⟨rest, rfl⟩
    have HR1 : Hid (R1.length = 64) := by rw [HR1e.out]; exact Hrl.out
    obtain ⟨r0, A0, c0, hrc0, hlr0, hB0, hO0, hA1, hp0⟩ : ∃ r A' c', r ≤ c' ∧ Hid (l1.length = 64 * 0 + r) ∧ Bts w A' (l1.drop (64 * 0)) ∧ Off A' hb ∧ At w [(hb, 147, hcells (blocks (m1.length / 64 + 0) init8 (m1 ++ l1)) R1 (m1.length + 64 * 0))] w ∧ Hid (Value.slice A l.length c = .slice A' r c') := by
      rw [Hm1.out, Hl1.out, HR1e.out]
      refine ⟨l.length, A, c, hc, Lib.hid (by omega), by simpa using hr, hoff, ?_, rfl⟩
      rw [Nat.add_zero, Nat.mul_zero, Nat.add_zero, blocks_prefix _ _ _ _ (by omega)]
      exact hA0
    clear hA0 e1
    rw [hp0.out]
    go_loopw [1] (fun p wr => ∃ j r A' c', Hid (l1.length = 64 * j + r) ∧ p = .slice A' r c' ∧ r ≤ c' ∧ Bts w A' (l1.drop (64 * j)) ∧ Off A' hb ∧ At w [(hb, 147, hcells (blocks (m1.length / 64 + j) init8 (m1 ++ l1)) R1 (m1.length + 64 * j))] wr) (fun p _ => lenV p)
    case atStart => exact ⟨0, r0, A0, c0, hlr0, rfl, hrc0, hB0, hO0, hA1⟩
    case round =>
      clear hA1 hB0 hO0 hrc0 hlr0 hp0
      obtain ⟨j, r, A', c', hlr, rfl, hrc, hB, hO, hAr⟩ := hrel
      by_cases h64 : 64 ≤ r
      · have h64i : (64 : Int) ≤ r := by omega
        have hle64 : 64 ≤ c' := by omega
        go_wp2
        haveI : Nonempty { x : World // At w [(hb, 147, hcells (blocks (m1.length / 64 + j) init8 (m1 ++ l1)) R1 (m1.length + 64 * j))] x } := ⟨⟨_, hAr⟩⟩
        refine wp_region_plan 5 [5] [0,1,2,3,4,5] (At w [(hb, 147, hcells (blocks (m1.length / 64 + j) init8 (m1 ++ l1)) R1 (m1.length + 64 * j))]) (by kernel_rfl) (by kernel_rfl) (hAr.drew) ?_
        refine plan_pure rfl rfl (fun K hK => ?_); go_simp; refine hK _ ?_; clear hK K
        refine plan_pure rfl rfl (fun K hK => ?_); go_simp; refine hK _ ?_; clear hK K
        refine plan_pure rfl rfl (fun K hK => ?_); go_simp; refine hK _ ?_; clear hK K
        refine plan_pure rfl rfl (fun K hK => ?_); go_simp; refine hK _ ?_; clear hK K
        refine plan_q rfl rfl rfl (.slice A' 64 c') (fun x hx => run_sliceSl rfl Tryd.underlying59 size5 rfl 0 64 (by exact boundIs_none 0) (by exact boundIs_int _ _ _ _ rfl) (by decide) hle64 (by rw [sub_zero]; rfl)) ?_
        refine plan_l rfl rfl rfl (fun K hK => ?_); go_simp
        refine (take_row w _ hb _ _ _ hAr.drew (blocks_length _ _ _ rfl) (blocks_lt _ _ _ init8_lt) HR1.out _ ((l1.drop (64 * j)).take 64) c' (((hB.take 64).at_ hAr (by simpa using hO)).drew 1) (by rw [List.length_take, List.length_drop]; have := hlr.out; omega) (hTa _ _ hAr.drew)).mono ?_
        rintro e' w5 ⟨rfl, hA5⟩
        go_simp
        refine hK _ _ (fun h => absurd h (by decide)) ?_; clear hK K
        refine plan_end ?_
        have Hbm := Lib.hid (block_more m1 l1 j HM0.out)
        have hA6 : At w [(hb, 147, hcells (blocks (m1.length / 64 + (j + 1)) init8 (m1 ++ l1)) R1 (m1.length + 64 * j))] w5 := by rw [← Hbm.out]; exact hA5
        have HNj := Lib.hid (hcells_n (n := m1.length + 64 * j) (blocks_length (m1.length / 64 + (j + 1)) init8 (m1 ++ l1) rfl) HR1.out)
        have HSj := Lib.hid (hcells_set_n (n := m1.length + 64 * j) (n' := m1.length + 64 * (j + 1)) (blocks_length (m1.length / 64 + (j + 1)) init8 (m1 ++ l1) rfl) HR1.out)
        have HLj := Lib.hid (hcells_length (n := m1.length + 64 * j) (blocks_length (m1.length / 64 + (j + 1)) init8 (m1 ++ l1) rfl) HR1.out)
        have hsj : m1.length + 64 * j + 64 < 18446744073709551616 := by have := hlr.out; omega
        clear hA5
        go_wp2_with (first
          | (with_reducible refine at_load rfl ?_
             refine wpList_plain rfl (fun _ hK => wp_load1 (off := 72) rfl hA6 rfl 0 rfl HNj.out no85 (hK _ _ ?_)); clear hK)
          | (with_reducible refine at_store rfl ?_
             refine wpList_plain rfl (fun _ hK => wp_store1 (off := 72) rfl hA6 rfl (v := .int .u64 ((m1.length + 64 * (j + 1) : Nat) : Int)) (val_u64 (by omega)) 0 rfl (by rw [HLj.out]; decide) rfl size85 (fun w7 hA7 => hK _ _ ?_)); clear hK
             replace hA7 : At w [(hb, 147, hcells (blocks (m1.length / 64 + (j + 1)) init8 (m1 ++ l1)) R1 (m1.length + 64 * (j + 1)))] w7 := by rw [← HSj.out]; exact hA7)
          | (with_reducible refine at_slice rfl ?_
             refine wpList_plain rfl (fun _ hK => wp_sliceSl (l := 64) (h := r) rfl Tryd.underlying59 size5 rfl (boundIs_int _ _ _ _ rfl) (boundIs_none r) h64 hrc (hK _ _ ?_)); clear hK))
        go_roundw
        case rel =>
          refine ⟨j + 1, r - 64, sub A' 64 c' 1, c' - 64, Lib.hid (by have := hlr.out; omega), rfl, by omega, ?_, hO.sub, hA7⟩
          have h8 := hB.drop 64 (cap := c') (by rw [List.length_drop]; have := hlr.out; omega)
          rw [List.drop_drop, show 64 * j + 64 = 64 * (j + 1) by omega] at h8
          exact h8
        case measure => simp [lenV]; omega
      · have h64i : (r : Int) < 64 := by omega
        go_wp2
        obtain ⟨N1, HN1⟩ : ∃ n, Hid (n = m1.length + 64 * j) := ⟨_, rfl⟩
        obtain ⟨l', Hl'⟩ : ∃ x, Hid (x = l1.drop (64 * j)) := ⟨_, rfl⟩
        have Hr' : Hid (l'.length = r) := by rw [Hl'.out]; exact (by rw [List.length_drop]; have := hlr.out; omega : (l1.drop (64 * j)).length = r)
        have hB' : Bts w A' l' := by rw [Hl'.out]; exact hB
        rw [← HN1.out] at hAr
        have hl64 : l'.length < 64 := by have := Hr'.out; omega
        have hN64 : N1 + l'.length < 1152921504606846976 := by have h7 := HN1.out; have h8 := hlr.out; have h9 := Hr'.out; omega
        have HNj := Lib.hid (hcells_n (n := N1) (blocks_length (m1.length / 64 + j) init8 (m1 ++ l1) rfl) HR1.out)
        have Hpj := Lib.hid (hcells_put (n := N1) (st := blocks (m1.length / 64 + j) init8 (m1 ++ l1)) (rest := R1) (o := 0) (l := l') (blocks_length _ _ _ rfl) HR1.out (by omega))
        have Hpl2 : Hid ((put R1 0 l').length = 64) := by
          have h7 := HR1.out
          exact (by rw [put_length (by omega), h7] : (put R1 0 l').length = 64)
        have HLj := Lib.hid (hcells_length (n := N1) (blocks_length (m1.length / 64 + j) init8 (m1 ++ l1) rfl) HR1.out)
        have HLj2 := Lib.hid (hcells_length (n := N1) (blocks_length (m1.length / 64 + j) init8 (m1 ++ l1) rfl) Hpl2.out)
        have HNj2 := Lib.hid (hcells_n (n := N1) (blocks_length (m1.length / 64 + j) init8 (m1 ++ l1) rfl) Hpl2.out)
        have HSj := Lib.hid (hcells_set_n (n := N1) (n' := N1 + l'.length) (blocks_length (m1.length / 64 + j) init8 (m1 ++ l1) rfl) Hpl2.out)
        have e2 : IntKind.u64.wrap ((N1 : Int) + (l'.length : Int)) = (N1 : Int) + l'.length := by rw [IntKind.wrap_u64]; omega
        have e3 : IntKind.u64.wrap (l'.length : Int) = l'.length := by rw [IntKind.wrap_u64]; omega
        haveI : Nonempty { x : World // (fun x : World => x.cell? ⟨hb, 72, none⟩ = some (.int .u64 (N1 : Int))) x } := ⟨⟨_, (hAr.cell (k := 0) rfl 72).trans HNj.out⟩⟩
        refine wp_region_plan 14 [9,14] [0,1,2,3,4,5,6,7,8,9,10,11,12,13,14] (fun x : World => x.cell? ⟨hb, 72, none⟩ = some (.int .u64 (N1 : Int))) (by kernel_rfl) (by kernel_rfl) ((hAr.drew.cell (k := 0) rfl 72).trans HNj.out) ?_
        refine plan_pure rfl rfl (fun K hK => ?_); go_simp; refine hK _ ?_; clear hK K
        refine plan_pure rfl rfl (fun K hK => ?_); go_simp; refine hK _ ?_; clear hK K
        refine plan_pure rfl rfl (fun K hK => ?_); go_simp; refine hK _ ?_; clear hK K
        refine plan_q rfl rfl rfl _ (fun x hx => run_load_cell rfl rfl hx no85) ?_
        refine plan_pure rfl rfl (fun K hK => ?_); go_simp; refine hK _ ?_; clear hK K
        refine plan_pure rfl rfl (fun K hK => ?_); go_simp; refine hK _ ?_; clear hK K
        refine plan_pure rfl rfl (fun K hK => ?_); go_simp; refine hK _ ?_; clear hK K
        refine plan_q rfl rfl rfl (.slice (some ⟨hb, 8, none⟩) 64 64) (fun x hx => run_sliceArr rfl Tryd.underlying145 size5 rfl 0 64 (by exact boundIs_none 0) (by exact boundIs_none 64) (by decide) (by decide) (by rw [sub_zero])) ?_
        refine plan_pure rfl rfl (fun K hK => ?_); go_simp; refine hK _ ?_; clear hK K
        refine plan_l rfl rfl rfl (fun K hK => wp_copy (l := l') rfl hAr.drew Tryd.underlying59 size5 rfl rfl (by rw [Hr'.out]; exact (Nat.min_eq_left (by omega)).symm) ((hB'.at_ hAr (by simpa using hO)).drew 1) 0 rfl (fun _ => rfl) (by rw [HLj.out]; omega) (fun w8 hA8 => hK _ _ (fun _ => (hA8.cell (k := 0) rfl 72).trans (by rw [Hpj.out]; exact HNj2.out)) ?_))
        clear hK K
        replace hA8 : At w [(hb, 147, hcells (blocks (m1.length / 64 + j) init8 (m1 ++ l1)) (put R1 0 l') N1)] w8 := by rw [← Hpj.out]; exact hA8
        refine plan_pure rfl rfl (fun K hK => ?_); go_simp; refine hK _ ?_; clear hK K
        refine plan_pure rfl rfl (fun K hK => ?_); go_simp; refine hK _ ?_; clear hK K
        refine plan_pure rfl rfl (fun K hK => ?_); go_simp; refine hK _ ?_; clear hK K
        refine plan_pure rfl rfl (fun K hK => ?_); go_simp; refine hK _ ?_; clear hK K
        refine plan_l rfl rfl rfl (fun K hK => wp_store1 (off := 72) rfl hA8 rfl (v := .int .u64 ((N1 + l'.length : Nat) : Int)) (val_u64 (by omega)) 0 rfl (by rw [HLj2.out]; decide) rfl size85 (fun w9 hA9 => hK _ _ (fun h => absurd h (by decide)) ?_))
        clear hK K
        replace hA9 : At w [(hb, 147, hcells (blocks (m1.length / 64 + j) init8 (m1 ++ l1)) (put R1 0 l') (N1 + l'.length))] w9 := by rw [← HSj.out]; exact hA9
        refine plan_end ?_
        clear e2 e3
        have hlr2 : Hid (m1 ++ l1 = m1 ++ l1.take (64 * j) ++ l') := by rw [Hl'.out, List.append_assoc, List.take_append_drop]; exact rfl
        have hln : (m1 ++ l1.take (64 * j)).length = N1 := by rw [HN1.out, List.length_append, List.length_take]; have := hlr.out; omega
        have h0' := HM0.out
        have h9 := HS.tail (m1 ++ l1.take (64 * j)) l' R1 HR1.out (by rw [hln, HN1.out]; omega) hl64
        have h10 : N1 / 64 = m1.length / 64 + j := by rw [HN1.out]; omega
        rw [← hlr2.out, hln, h10, hE.out] at h9
        have h11 : blocks (m1.length / 64 + j) init8 (m1 ++ l1) = blocks (m1.length / 64 + j) init8 (m1 ++ l1.take (64 * j)) := by
          rw [hlr2.out]; exact blocks_prefix _ _ _ _ (by rw [hln, ← h10]; omega)
        rw [← h11] at h9
        go_wp2
        refine bodyPost_end (results_none rfl _ _ _) rfl ?_
        exact ⟨rfl, _, h9, hA9⟩
  · obtain ⟨q, hq⟩ : ∃ q : Nat, q = m.length % 64 := ⟨_, rfl⟩
    have hq0 : 0 < q := by omega
    have hq1 : q < 64 := by omega
    have e1 : (m.length : Int) % 64 = q := by omega
    obtain ⟨l0, lx, hle, hl0⟩ : ∃ l0 lx, l = l0 ++ lx ∧ l0.length = min l.length (64 - q) := ⟨l.take (64 - q), l.drop (64 - q), (List.take_append_drop _ _).symm, by rw [List.length_take]; omega⟩
    have hlen : l.length = l0.length + lx.length := by rw [hle, List.length_append]
    have HN0 := Lib.hid (hcells_n (n := m.length) (blocks_length (m.length / 64) init8 m rfl) hrl)
    have HB0 : Bts w A l0 := by have := hr.take l0.length; rw [hle, List.take_left'] at this; exact this; rfl
    have HBx : Bts w (sub A l0.length c 1) lx := by have := hr.drop l0.length hc; rw [hle, List.drop_left'] at this; exact this; rfl
    have Hput := Lib.hid (hcells_put (n := m.length) (st := blocks (m.length / 64) init8 m) (rest := rest) (o := q) (l := l0) (blocks_length _ _ _ rfl) hrl (by omega))
    have Hpl : (put rest q l0).length = 64 := by rw [put_length (by omega), hrl]
    have HN1 := Lib.hid (hcells_n (n := m.length) (blocks_length (m.length / 64) init8 m rfl) Hpl)
    have HS1 := Lib.hid (hcells_set_n (n := m.length) (n' := m.length + l0.length) (blocks_length (m.length / 64) init8 m rfl) Hpl)
    have HPl := Lib.hid Hpl
    have Hll := Lib.hid (hcells_length (n := m.length) (blocks_length (m.length / 64) init8 m rfl) hrl)
    have Hll1 := Lib.hid (hcells_length (n := m.length) (blocks_length (m.length / 64) init8 m rfl) Hpl)
    have Hl0 := Lib.hid hl0
    have Hlen := Lib.hid hlen
    have Hrl := Lib.hid hrl
    have Hrt := Lib.hid hrt
    have Hle := Lib.hid hle
    have hk1 : l0.length ≤ 64 - q := by omega
    have hk2 : l0.length ≤ l.length := by omega
    have hk3 : q + l0.length < 64 → lx = [] := fun h => List.eq_nil_of_length_eq_zero (by omega)
    have Hk3 := Lib.hid hk3
    have Hq := Lib.hid hq
    have hqi : (0 : Int) < q := by omega
    clear hrl h0 hrt hrow hl0 hlen hle hk3 Hpl hq
    by_cases hfull : q + l0.length < 64
    · have hfi : (q : Int) + l0.length < 64 := by omega
      go_enter Tryd.func62, Tryd.ntmps62
      go_wp2_with (first
        | (with_reducible refine at_load rfl ?_
           refine wpList_plain rfl (fun _ hK => wp_load1 (off := 72) rfl hA0 rfl 0 rfl HN0.out no85 (hK _ _ ?_)); clear hK)
        | (with_reducible refine at_slice rfl ?_
           refine wpList_plain rfl (fun _ hK => wp_sliceArr (l := q) (h := 64) rfl Tryd.underlying145 size5 rfl (boundIs_some _ _ _) (boundIs_none 64) (by omega) (Nat.le_refl _) (hK _ _ ?_)); clear hK
           rw [sub_lt hq1])
        | (with_reducible refine at_bin (b := .copy) rfl ?_
           refine wpList_plain rfl (fun _ hK => wp_copy (l := l0) rfl hA0 Tryd.underlying59 size5 rfl rfl Hl0.out HB0 0 rfl (fun _ => rfl) (by rw [Hll.out]; omega) (fun w2 hA2 => hK _ _ ?_)); clear hK
           replace hA2 : At w [(hb, 147, hcells (blocks (m.length / 64) init8 m) (put rest q l0) m.length)] w2 := by rw [← Hput.out]; exact hA2)
        | (with_reducible refine at_load rfl ?_
           refine wpList_plain rfl (fun _ hK => wp_load1 (off := 72) rfl hA2 rfl 0 rfl HN1.out no85 (hK _ _ ?_)); clear hK)
        | (with_reducible refine at_store rfl ?_
           refine wpList_plain rfl (fun _ hK => wp_store1 (off := 72) rfl hA2 rfl (v := .int .u64 ((m.length + l0.length : Nat) : Int)) (val_u64 (by omega)) 0 rfl (by rw [Hll1.out]; decide) rfl size85 (fun w3 hA3 => hK _ _ ?_)); clear hK
           replace hA3 : At w [(hb, 147, hcells (blocks (m.length / 64) init8 m) (put rest q l0) (m.length + l0.length))] w3 := by rw [← HS1.out]; exact hA3)
        | (with_reducible refine at_slice rfl ?_
           refine wpList_plain rfl (fun _ hK => wp_sliceSl (l := l0.length) (h := l.length) rfl Tryd.underlying59 size5 rfl (boundIs_some _ _ _) (boundIs_none l.length) hk2 hc (hK _ _ ?_)); clear hK))
      refine bodyPost_ret (results_none rfl _ _ _) rfl ?_
      refine ⟨rfl, _, ?_, hA3⟩
      have h4 := HS.part m l0 rest Hrl.out Hrt.out (by rw [← Hq.out]; exact hfull)
      rw [← Hq.out] at h4
      rw [Hle.out, Hk3.out hfull, List.append_nil]
      exact h4
    · have hfi : (64 : Int) ≤ (q : Int) + l0.length := by omega
      have hfe : q + l0.length = 64 := by omega
      obtain ⟨hF1, hF2⟩ := fills m l0 rest Hrl.out Hrt.out (by rw [← Hq.out]; exact hfe)
      rw [← Hq.out] at hF1
      have HF1 := Lib.hid hF1
      have HF2 := Lib.hid hF2
      clear hF1 hF2 hfe
      go_enter Tryd.func62, Tryd.ntmps62
      go_wp2_with (first
        | (with_reducible refine at_load rfl ?_
           refine wpList_plain rfl (fun _ hK => wp_load1 (off := 72) rfl hA0 rfl 0 rfl HN0.out no85 (hK _ _ ?_)); clear hK)
        | (with_reducible refine at_slice rfl ?_
           refine wpList_plain rfl (fun _ hK => wp_sliceArr (l := q) (h := 64) rfl Tryd.underlying145 size5 rfl (boundIs_some _ _ _) (boundIs_none 64) (by omega) (Nat.le_refl _) (hK _ _ ?_)); clear hK
           rw [sub_lt hq1])
        | (with_reducible refine at_bin (b := .copy) rfl ?_
           refine wpList_plain rfl (fun _ hK => wp_copy (l := l0) rfl hA0 Tryd.underlying59 size5 rfl rfl Hl0.out HB0 0 rfl (fun _ => rfl) (by rw [Hll.out]; omega) (fun w2 hA2 => hK _ _ ?_)); clear hK
           replace hA2 : At w [(hb, 147, hcells (blocks (m.length / 64) init8 m) (put rest q l0) m.length)] w2 := by rw [← Hput.out]; exact hA2)
        | (with_reducible refine at_load rfl ?_
           refine wpList_plain rfl (fun _ hK => wp_load1 (off := 72) rfl hA2 rfl 0 rfl HN1.out no85 (hK _ _ ?_)); clear hK)
        | (with_reducible refine at_store rfl ?_
           refine wpList_plain rfl (fun _ hK => wp_store1 (off := 72) rfl hA2 rfl (v := .int .u64 ((m.length + l0.length : Nat) : Int)) (val_u64 (by omega)) 0 rfl (by rw [Hll1.out]; decide) rfl size85 (fun w3 hA3 => hK _ _ ?_)); clear hK
           replace hA3 : At w [(hb, 147, hcells (blocks (m.length / 64) init8 m) (put rest q l0) (m.length + l0.length))] w3 := by rw [← HS1.out]; exact hA3)
        | (with_reducible refine at_slice rfl ?_
           refine wpList_plain rfl (fun _ hK => wp_sliceSl (l := l0.length) (h := l.length) rfl Tryd.underlying59 size5 rfl (boundIs_some _ _ _) (boundIs_none l.length) hk2 hc (hK _ _ ?_)); clear hK))
      have hTx := Lib.hid hTa
      haveI : Nonempty { x : World // At w [(hb, 147, hcells (blocks (m.length / 64) init8 m) (put rest q l0) (m.length + l0.length))] x } := ⟨⟨_, hA3⟩⟩
      refine wp_region_plan 7 [7] [0,1,2,3,4,5,6,7] (At w [(hb, 147, hcells (blocks (m.length / 64) init8 m) (put rest q l0) (m.length + l0.length))]) (by kernel_rfl) (by kernel_rfl) (hA3.drew) ?_
      refine plan_pure rfl rfl (fun K hK => ?_); go_simp; refine hK _ ?_; clear hK K
      refine plan_pure rfl rfl (fun K hK => ?_); go_simp; refine hK _ ?_; clear hK K
      refine plan_pure rfl rfl (fun K hK => ?_); go_simp; refine hK _ ?_; clear hK K
      refine plan_pure rfl rfl (fun K hK => ?_); go_simp; refine hK _ ?_; clear hK K
      refine plan_pure rfl rfl (fun K hK => ?_); go_simp; refine hK _ ?_; clear hK K
      refine plan_pure rfl rfl (fun K hK => ?_); go_simp; refine hK _ ?_; clear hK K
      refine plan_q rfl rfl rfl (.slice (some ⟨hb, 8, none⟩) 64 64) (fun x hx => run_sliceArr rfl Tryd.underlying145 size5 rfl 0 64 (by exact boundIs_none 0) (by exact boundIs_none 64) (by decide) (by decide) (by rw [sub_zero])) ?_
      refine plan_l rfl rfl rfl (fun K hK => ?_); go_simp
      refine (take_row w _ hb _ _ _ hA3.drew (blocks_length _ _ _ rfl) (blocks_lt _ _ _ init8_lt) HPl.out _ (put rest q l0) 64 (Bts.row hA3.drew (k := 0) rfl (hcells_rest (blocks_length _ _ _ rfl) HPl.out)) HPl.out (hTa _ _ hA3.drew)).mono ?_
      rintro e' w4 ⟨rfl, hA4⟩
      go_simp
      refine hK _ _ (fun h => absurd h (by decide)) ?_; clear hK K
      refine plan_end ?_
      go_wp2_with fail
      obtain ⟨m1, Hm1⟩ : ∃ m1, Hid (m1 = m ++ l0) := ⟨_, rfl⟩
      obtain ⟨l1, Hl1⟩ : ∃ l1, Hid (l1 = lx) := ⟨_, rfl⟩
      have hE : Hid (m1 ++ l1 = m ++ l) := by rw [Hm1.out, Hl1.out, Hle.out, List.append_assoc]; exact rfl
      have HM0 : Hid (m1.length % 64 = 0) := by rw [Hm1.out]; exact HF2.out
      have hsz1 : m1.length + l1.length < 1152921504606846976 := by rw [Hm1.out, Hl1.out, List.length_append]; have := Hlen.out; omega
      obtain ⟨R1, HR1e⟩ : ∃ R1, Hid (R1 = put rest q l0) := ⟨_, rfl⟩
      have HR1 : Hid (R1.length = 64) := by rw [HR1e.out]; exact HPl.out
      obtain ⟨r0, A0, c0, hrc0, hlr0, hB0, hO0, hA1, hp0⟩ : ∃ r A' c', r ≤ c' ∧ Hid (l1.length = 64 * 0 + r) ∧ Bts w A' (l1.drop (64 * 0)) ∧ Off A' hb ∧ At w [(hb, 147, hcells (blocks (m1.length / 64 + 0) init8 (m1 ++ l1)) R1 (m1.length + 64 * 0))] w4 ∧ Hid (Value.slice (sub A l0.length c 1) (l.length - l0.length) (c - l0.length) = .slice A' r c') := by
        have h5 := Hlen.out
        refine ⟨lx.length, sub A l0.length c 1, c - l0.length, by omega, Lib.hid (by rw [Hl1.out]; omega), by rw [Hl1.out]; simpa using HBx, hoff.sub, ?_, by rw [show l.length - l0.length = lx.length by omega]; exact rfl⟩
        have h6 := HM0.out
        rw [Nat.add_zero, Nat.mul_zero, Nat.add_zero, blocks_prefix _ _ _ _ (by omega), Hm1.out, ← HF1.out, HR1e.out, List.length_append]
        exact hA4
      clear hA4 hA3 hA2 hA0 e1 hfi
      rw [hp0.out]
      go_loopw [1] (fun p wr => ∃ j r A' c', Hid (l1.length = 64 * j + r) ∧ p = .slice A' r c' ∧ r ≤ c' ∧ Bts w A' (l1.drop (64 * j)) ∧ Off A' hb ∧ At w [(hb, 147, hcells (blocks (m1.length / 64 + j) init8 (m1 ++ l1)) R1 (m1.length + 64 * j))] wr) (fun p _ => lenV p)
      case atStart => exact ⟨0, r0, A0, c0, hlr0, rfl, hrc0, hB0, hO0, hA1⟩
      case round =>
        clear hA1 hB0 hO0 hrc0 hlr0 hp0
        obtain ⟨j, r, A', c', hlr, rfl, hrc, hB, hO, hAr⟩ := hrel
        by_cases h64 : 64 ≤ r
        · have h64i : (64 : Int) ≤ r := by omega
          have hle64 : 64 ≤ c' := by omega
          go_wp2
          haveI : Nonempty { x : World // At w [(hb, 147, hcells (blocks (m1.length / 64 + j) init8 (m1 ++ l1)) R1 (m1.length + 64 * j))] x } := ⟨⟨_, hAr⟩⟩
          refine wp_region_plan 5 [5] [0,1,2,3,4,5] (At w [(hb, 147, hcells (blocks (m1.length / 64 + j) init8 (m1 ++ l1)) R1 (m1.length + 64 * j))]) (by kernel_rfl) (by kernel_rfl) (hAr.drew) ?_
          refine plan_pure rfl rfl (fun K hK => ?_); go_simp; refine hK _ ?_; clear hK K
          refine plan_pure rfl rfl (fun K hK => ?_); go_simp; refine hK _ ?_; clear hK K
          refine plan_pure rfl rfl (fun K hK => ?_); go_simp; refine hK _ ?_; clear hK K
          refine plan_pure rfl rfl (fun K hK => ?_); go_simp; refine hK _ ?_; clear hK K
          refine plan_q rfl rfl rfl (.slice A' 64 c') (fun x hx => run_sliceSl rfl Tryd.underlying59 size5 rfl 0 64 (by exact boundIs_none 0) (by exact boundIs_int _ _ _ _ rfl) (by decide) hle64 (by rw [sub_zero]; rfl)) ?_
          refine plan_l rfl rfl rfl (fun K hK => ?_); go_simp
          refine (take_row w _ hb _ _ _ hAr.drew (blocks_length _ _ _ rfl) (blocks_lt _ _ _ init8_lt) HR1.out _ ((l1.drop (64 * j)).take 64) c' (((hB.take 64).at_ hAr (by simpa using hO)).drew 1) (by rw [List.length_take, List.length_drop]; have := hlr.out; omega) (hTa _ _ hAr.drew)).mono ?_
          rintro e' w5 ⟨rfl, hA5⟩
          go_simp
          refine hK _ _ (fun h => absurd h (by decide)) ?_; clear hK K
          refine plan_end ?_
          have Hbm := Lib.hid (block_more m1 l1 j HM0.out)
          have hA6 : At w [(hb, 147, hcells (blocks (m1.length / 64 + (j + 1)) init8 (m1 ++ l1)) R1 (m1.length + 64 * j))] w5 := by rw [← Hbm.out]; exact hA5
          have HNj := Lib.hid (hcells_n (n := m1.length + 64 * j) (blocks_length (m1.length / 64 + (j + 1)) init8 (m1 ++ l1) rfl) HR1.out)
          have HSj := Lib.hid (hcells_set_n (n := m1.length + 64 * j) (n' := m1.length + 64 * (j + 1)) (blocks_length (m1.length / 64 + (j + 1)) init8 (m1 ++ l1) rfl) HR1.out)
          have HLj := Lib.hid (hcells_length (n := m1.length + 64 * j) (blocks_length (m1.length / 64 + (j + 1)) init8 (m1 ++ l1) rfl) HR1.out)
          have hsj : m1.length + 64 * j + 64 < 18446744073709551616 := by have := hlr.out; omega
          clear hA5
          go_wp2_with (first
            | (with_reducible refine at_load rfl ?_
               refine wpList_plain rfl (fun _ hK => wp_load1 (off := 72) rfl hA6 rfl 0 rfl HNj.out no85 (hK _ _ ?_)); clear hK)
            | (with_reducible refine at_store rfl ?_
               refine wpList_plain rfl (fun _ hK => wp_store1 (off := 72) rfl hA6 rfl (v := .int .u64 ((m1.length + 64 * (j + 1) : Nat) : Int)) (val_u64 (by omega)) 0 rfl (by rw [HLj.out]; decide) rfl size85 (fun w7 hA7 => hK _ _ ?_)); clear hK
               replace hA7 : At w [(hb, 147, hcells (blocks (m1.length / 64 + (j + 1)) init8 (m1 ++ l1)) R1 (m1.length + 64 * (j + 1)))] w7 := by rw [← HSj.out]; exact hA7)
            | (with_reducible refine at_slice rfl ?_
               refine wpList_plain rfl (fun _ hK => wp_sliceSl (l := 64) (h := r) rfl Tryd.underlying59 size5 rfl (boundIs_int _ _ _ _ rfl) (boundIs_none r) h64 hrc (hK _ _ ?_)); clear hK))
          go_roundw
          case rel =>
            refine ⟨j + 1, r - 64, sub A' 64 c' 1, c' - 64, Lib.hid (by have := hlr.out; omega), rfl, by omega, ?_, hO.sub, hA7⟩
            have h8 := hB.drop 64 (cap := c') (by rw [List.length_drop]; have := hlr.out; omega)
            rw [List.drop_drop, show 64 * j + 64 = 64 * (j + 1) by omega] at h8
            exact h8
          case measure => simp [lenV]; omega
        · have h64i : (r : Int) < 64 := by omega
          go_wp2
          obtain ⟨N1, HN1⟩ : ∃ n, Hid (n = m1.length + 64 * j) := ⟨_, rfl⟩
          obtain ⟨l', Hl'⟩ : ∃ x, Hid (x = l1.drop (64 * j)) := ⟨_, rfl⟩
          have Hr' : Hid (l'.length = r) := by rw [Hl'.out]; exact (by rw [List.length_drop]; have := hlr.out; omega : (l1.drop (64 * j)).length = r)
          have hB' : Bts w A' l' := by rw [Hl'.out]; exact hB
          rw [← HN1.out] at hAr
          have hl64 : l'.length < 64 := by have := Hr'.out; omega
          have hN64 : N1 + l'.length < 1152921504606846976 := by have h7 := HN1.out; have h8 := hlr.out; have h9 := Hr'.out; omega
          have HNj := Lib.hid (hcells_n (n := N1) (blocks_length (m1.length / 64 + j) init8 (m1 ++ l1) rfl) HR1.out)
          have Hpj := Lib.hid (hcells_put (n := N1) (st := blocks (m1.length / 64 + j) init8 (m1 ++ l1)) (rest := R1) (o := 0) (l := l') (blocks_length _ _ _ rfl) HR1.out (by omega))
          have Hpl2 : Hid ((put R1 0 l').length = 64) := by
            have h7 := HR1.out
            exact (by rw [put_length (by omega), h7] : (put R1 0 l').length = 64)
          have HLj := Lib.hid (hcells_length (n := N1) (blocks_length (m1.length / 64 + j) init8 (m1 ++ l1) rfl) HR1.out)
          have HLj2 := Lib.hid (hcells_length (n := N1) (blocks_length (m1.length / 64 + j) init8 (m1 ++ l1) rfl) Hpl2.out)
          have HNj2 := Lib.hid (hcells_n (n := N1) (blocks_length (m1.length / 64 + j) init8 (m1 ++ l1) rfl) Hpl2.out)
          have HSj := Lib.hid (hcells_set_n (n := N1) (n' := N1 + l'.length) (blocks_length (m1.length / 64 + j) init8 (m1 ++ l1) rfl) Hpl2.out)
          have e2 : IntKind.u64.wrap ((N1 : Int) + (l'.length : Int)) = (N1 : Int) + l'.length := by rw [IntKind.wrap_u64]; omega
          have e3 : IntKind.u64.wrap (l'.length : Int) = l'.length := by rw [IntKind.wrap_u64]; omega
          haveI : Nonempty { x : World // (fun x : World => x.cell? ⟨hb, 72, none⟩ = some (.int .u64 (N1 : Int))) x } := ⟨⟨_, (hAr.cell (k := 0) rfl 72).trans HNj.out⟩⟩
          refine wp_region_plan 14 [9,14] [0,1,2,3,4,5,6,7,8,9,10,11,12,13,14] (fun x : World => x.cell? ⟨hb, 72, none⟩ = some (.int .u64 (N1 : Int))) (by kernel_rfl) (by kernel_rfl) ((hAr.drew.cell (k := 0) rfl 72).trans HNj.out) ?_
          refine plan_pure rfl rfl (fun K hK => ?_); go_simp; refine hK _ ?_; clear hK K
          refine plan_pure rfl rfl (fun K hK => ?_); go_simp; refine hK _ ?_; clear hK K
          refine plan_pure rfl rfl (fun K hK => ?_); go_simp; refine hK _ ?_; clear hK K
          refine plan_q rfl rfl rfl _ (fun x hx => run_load_cell rfl rfl hx no85) ?_
          refine plan_pure rfl rfl (fun K hK => ?_); go_simp; refine hK _ ?_; clear hK K
          refine plan_pure rfl rfl (fun K hK => ?_); go_simp; refine hK _ ?_; clear hK K
          refine plan_pure rfl rfl (fun K hK => ?_); go_simp; refine hK _ ?_; clear hK K
          refine plan_q rfl rfl rfl (.slice (some ⟨hb, 8, none⟩) 64 64) (fun x hx => run_sliceArr rfl Tryd.underlying145 size5 rfl 0 64 (by exact boundIs_none 0) (by exact boundIs_none 64) (by decide) (by decide) (by rw [sub_zero])) ?_
          refine plan_pure rfl rfl (fun K hK => ?_); go_simp; refine hK _ ?_; clear hK K
          refine plan_l rfl rfl rfl (fun K hK => wp_copy (l := l') rfl hAr.drew Tryd.underlying59 size5 rfl rfl (by rw [Hr'.out]; exact (Nat.min_eq_left (by omega)).symm) ((hB'.at_ hAr (by simpa using hO)).drew 1) 0 rfl (fun _ => rfl) (by rw [HLj.out]; omega) (fun w8 hA8 => hK _ _ (fun _ => (hA8.cell (k := 0) rfl 72).trans (by rw [Hpj.out]; exact HNj2.out)) ?_))
          clear hK K
          replace hA8 : At w [(hb, 147, hcells (blocks (m1.length / 64 + j) init8 (m1 ++ l1)) (put R1 0 l') N1)] w8 := by rw [← Hpj.out]; exact hA8
          refine plan_pure rfl rfl (fun K hK => ?_); go_simp; refine hK _ ?_; clear hK K
          refine plan_pure rfl rfl (fun K hK => ?_); go_simp; refine hK _ ?_; clear hK K
          refine plan_pure rfl rfl (fun K hK => ?_); go_simp; refine hK _ ?_; clear hK K
          refine plan_pure rfl rfl (fun K hK => ?_); go_simp; refine hK _ ?_; clear hK K
          refine plan_l rfl rfl rfl (fun K hK => wp_store1 (off := 72) rfl hA8 rfl (v := .int .u64 ((N1 + l'.length : Nat) : Int)) (val_u64 (by omega)) 0 rfl (by rw [HLj2.out]; decide) rfl size85 (fun w9 hA9 => hK _ _ (fun h => absurd h (by decide)) ?_))
          clear hK K
          replace hA9 : At w [(hb, 147, hcells (blocks (m1.length / 64 + j) init8 (m1 ++ l1)) (put R1 0 l') (N1 + l'.length))] w9 := by rw [← HSj.out]; exact hA9
          refine plan_end ?_
          clear e2 e3
          have hlr2 : Hid (m1 ++ l1 = m1 ++ l1.take (64 * j) ++ l') := by rw [Hl'.out, List.append_assoc, List.take_append_drop]; exact rfl
          have hln : (m1 ++ l1.take (64 * j)).length = N1 := by rw [HN1.out, List.length_append, List.length_take]; have := hlr.out; omega
          have h0' := HM0.out
          have h9 := HS.tail (m1 ++ l1.take (64 * j)) l' R1 HR1.out (by rw [hln, HN1.out]; omega) hl64
          have h10 : N1 / 64 = m1.length / 64 + j := by rw [HN1.out]; omega
          rw [← hlr2.out, hln, h10, hE.out] at h9
          have h11 : blocks (m1.length / 64 + j) init8 (m1 ++ l1) = blocks (m1.length / 64 + j) init8 (m1 ++ l1.take (64 * j)) := by
            rw [hlr2.out]; exact blocks_prefix _ _ _ _ (by rw [hln, ← h10]; omega)
          rw [← h11] at h9
          go_wp2
          refine bodyPost_end (results_none rfl _ _ _) rfl ?_
          exact ⟨rfl, _, h9, hA9⟩
end Go.Proofs.YtpomngkcfbnjoaaDoor

/- The walk of Sum: a hasher's sum. -/
namespace Go.Proofs.YtpomngkcfbnjoaaDoor
open Go.RowKit Go.Dk

theorem zero36 : zeroIs Tryd.prog 23 (.agg (dc (List.replicate 32 0)).toArray) := by unfold zeroIs; kernel_rfl
theorem zero87 : zeroIs Tryd.prog 147 (.agg (hcells (List.replicate 8 0) (List.replicate 64 0) 0).toArray) := by unfold zeroIs; kernel_rfl
theorem zero88 : zeroIs Tryd.prog 148 (.agg (dc (List.replicate 128 0)).toArray) := by unfold zeroIs; kernel_rfl
theorem row36 : isRow Tryd.prog 23 32 = true := by kernel_rfl
theorem size87 : (Tryd.prog.info? 147).map (·.size) = some 73 := by kernel_rfl
theorem size36 : (Tryd.prog.info? 23).map (·.size) = some 32 := by kernel_rfl

/-- the padding under way -/
def pd (Z B j : Nat) : List UInt8 := (128 :: List.replicate Z 0) ++ ((be 8 B).take j ++ List.replicate (127 - Z - j) 0)
theorem be_length (k n : Nat) : (be k n).length = k := by simp [be]
theorem pd_length (Z B j : Nat) (hZ : Z ≤ 63) (hj : j ≤ 8) : (pd Z B j).length = 128 := by simp [pd, be_length]; omega
theorem pd_zero (Z B : Nat) (hZ : Z ≤ 63) : (dc (List.replicate 128 0)).set 0 (.int .u8 128) = dc (pd Z B 0) := by
  have h : List.replicate 128 (0 : UInt8) = 0 :: (List.replicate Z 0 ++ List.replicate (127 - Z) 0) := by
    rw [List.replicate_append_replicate, ← List.replicate_succ]; congr 1; omega
  rw [h]
  simp [pd, dc]
theorem u8_ofNat (n : Nat) : ((UInt8.ofNat n).toNat : Int) = (n : Int) % 256 := by simp
theorem be_at {k n i : Nat} (h : i < k) : (be k n)[i]? = some (UInt8.ofNat (n / 256 ^ (k - 1 - i))) := by simp [be, h]
theorem take_put {l : List UInt8} {j : Nat} (b : UInt8) (h : l[j]? = some b) (n : Nat) : (dc (l.take j ++ List.replicate (n + 1) 0)).set j (.int .u8 b.toNat) = dc (l.take (j + 1) ++ List.replicate n 0) := by
  have hj : j < l.length := (List.getElem?_eq_some_iff.1 h).1
  rw [dc_append, List.set_append, if_neg (by rw [dc_length, List.length_take]; omega), dc_length, List.length_take, show j - min j l.length = 0 by omega, dc_append, List.take_add_one, h]
  simp [dc, List.replicate_succ]
theorem pd_step (Z B j : Nat) (hZ : Z ≤ 63) (hj : j < 8) : (dc (pd Z B j)).set (1 + Z + j) (.int .u8 ((B / 256 ^ (7 - j) : Nat) % 256 : Int)) = dc (pd Z B (j + 1)) := by
  have h := take_put (l := be 8 B) (j := j) _ (be_at hj) (127 - Z - j - 1)
  rw [show 127 - Z - j - 1 + 1 = 127 - Z - j by omega, u8_ofNat] at h
  unfold pd
  rw [dc_append, List.set_append, if_neg (by simp [dc]; omega), show 1 + Z + j - (dc (128 :: List.replicate Z 0)).length = j by simp [dc]; omega, h, ← dc_append, show 127 - Z - j - 1 = 127 - Z - (j + 1) by omega]
theorem pd_end (n : Nat) : ((dc (pd ((119 - n % 64) % 64) (8 * n % 18446744073709551616) 8)).drop 0).take (padding n).length = dc (padding n) := by
  rw [List.drop_zero, dc_take]
  congr 1
  unfold pd padding
  rw [← List.append_assoc, List.take_of_length_le (l := be 8 _) (by rw [be_length]; omega)]
  exact List.take_left' rfl
theorem padding_length (n : Nat) : (padding n).length = 9 + (119 - n % 64) % 64 := by simp [padding, be_length]; omega

/-- the sum under way -/
def ob (st : List Nat) (n : Nat) : List UInt8 := (st.flatMap (be 4)).take n ++ List.replicate (32 - n) 0
theorem flat_length (st : List Nat) : (st.flatMap (be 4)).length = 4 * st.length := by
  induction st with
  | nil => rfl
  | cons a t ih => rw [List.flatMap_cons, List.length_append, be_length, ih, List.length_cons]; omega
theorem ob_length (st : List Nat) (h : st.length = 8) (n : Nat) (hn : n ≤ 32) : (ob st n).length = 32 := by unfold ob; rw [List.length_append, List.length_take, flat_length, h, List.length_replicate]; omega
theorem flat_at (st : List Nat) (i j : Nat) (hi : i < st.length) (hj : j < 4) : (st.flatMap (be 4))[4 * i + j]? = some (UInt8.ofNat (wAt st i / 256 ^ (3 - j))) := by
  induction st generalizing i with
  | nil => cases hi
  | cons a t ih =>
    rw [List.flatMap_cons]
    cases i with
    | zero => rw [List.getElem?_append_left (by rw [be_length]; omega), be_at (by omega)]; simp [wAt]
    | succ i =>
      rw [List.getElem?_append_right (by rw [be_length]; omega), be_length, show 4 * (i + 1) + j - 4 = 4 * i + j by omega, ih i (by simpa using hi)]
      simp [wAt]
theorem ob_step (st : List Nat) (h : st.length = 8) (i j : Nat) (hi : i < 8) (hj : j < 4) : (dc (ob st (4 * i + j))).set (4 * i + j) (.int .u8 ((wAt st i / 256 ^ (3 - j) : Nat) % 256 : Int)) = dc (ob st (4 * i + (j + 1))) := by
  have h1 := take_put (l := st.flatMap (be 4)) (j := 4 * i + j) _ (flat_at st i j (by omega) hj) (32 - (4 * i + j) - 1)
  rw [show 32 - (4 * i + j) - 1 + 1 = 32 - (4 * i + j) by omega, u8_ofNat] at h1
  unfold ob
  rw [h1, show 32 - (4 * i + j) - 1 = 32 - (4 * i + (j + 1)) by omega, show 4 * i + j + 1 = 4 * i + (j + 1) by omega]
theorem ob_end (st : List Nat) (h : st.length = 8) : ob st (4 * 8) = st.flatMap (be 4) := by
  unfold ob
  rw [List.take_of_length_le (by rw [flat_length]; omega)]
  simp
theorem shr256 (B a b : Nat) (h : b = 8 * a) : ((B : Int) / 2 ^ b % 256) = ((B / 256 ^ a : Nat) : Int) % 256 := by
  subst h
  have h1 : (2 : Int) ^ (8 * a) = ((256 ^ a : Nat) : Int) := by rw [show (256 : Nat) = 2 ^ 8 from rfl, ← Nat.pow_mul, Int.natCast_pow]; rfl
  rw [h1, Int.natCast_ediv]
theorem val_u8 {a b : Int} (h : a = b) : Value.int .u8 a = .int .u8 b := by rw [h]
theorem hs_one {m : List UInt8} {cs : List Value} (h : HS m cs) : cs.length = 73 ∧ cs[72]? = some (.int .u64 (m.length : Int)) ∧ (∀ v ∈ cs.toArray, v.oneCell' = true) ∧ (cs.drop 0).take 8 = wc (blocks (m.length / 64) init8 m) := by
  obtain ⟨rest, h1, _, rfl⟩ := h
  have hb := blocks_length (m.length / 64) init8 m rfl
  refine ⟨hcells_length hb h1, hcells_n hb h1, ?_, hcells_st hb⟩
  intro v hv
  simp only [hcells, wc, dc, List.mem_toArray, List.mem_append, List.mem_map, List.mem_cons, List.not_mem_nil, or_false] at hv
  rcases hv with ⟨_, _, rfl⟩ | ⟨_, _, rfl⟩ | rfl <;> rfl
theorem sha_eq (m : List UInt8) : sha m = (blocks ((m ++ padding m.length).length / 64) init8 (m ++ padding m.length)).flatMap (be 4) := rfl

set_option maxRecDepth 100000 in
set_option maxHeartbeats 4000000 in
theorem sum_any (w : World) (hb : Nat) (m : List UInt8) (cs : List Value) (hH : HS m cs) (hrow : w.heap[hb]? = some (.cells cs.toArray 147 (0, 0)))
    (hsz : m.length + 72 < 1152921504606846976) (hT : Tab w) (_hb0 : hb ≠ 0) :
    Calls Tryd.prog 63 #[.pointer (some ⟨hb, 0, none⟩)] w fun e w' => e = .returned (.agg (dc (sha m)).toArray) ∧ At w [] w' := by
  have hA0 := At.refl w
  obtain ⟨hl, hn72, hone, hst8⟩ := hs_one hH
  have Hl := Lib.hid hl
  have Hn := Lib.hid hn72
  have Hone := Lib.hid hone
  have hlt : hb < w.heap.size := lt_of_row hrow
  have Hc : Hid (w.cell? ⟨hb, 72, none⟩ = some (.int .u64 (m.length : Int))) := Lib.hid (((At.start1 hrow).cell (k := 0) rfl 72).trans hn72)
  obtain ⟨Z, HZ⟩ : ∃ Z, Hid (Z = (119 - m.length % 64) % 64) := ⟨_, rfl⟩
  obtain ⟨B, HB⟩ : ∃ B, Hid (B = 8 * m.length % 18446744073709551616) := ⟨_, rfl⟩
  have hZ : Z ≤ 63 := by rw [HZ.out]; omega
  have HP0 := Lib.hid (pd_zero Z B hZ)
  obtain ⟨N, HN⟩ : ∃ N, Hid (N = m.length) := ⟨_, rfl⟩
  rw [← HN.out] at Hn hsz Hc
  have eB : IntKind.u64.wrap (8 * (N : Int)) = B := by have := HN.out; have := HB.out; rw [IntKind.wrap_u64]; omega
  have Htk : Hid ((cs.drop 0).take 73 = cs) := Lib.hid (by rw [List.drop_zero, List.take_of_length_le (by omega)])
  have Hs1 : Hid (0 + cs.toArray.size ≤ (hcells (List.replicate 8 0) (List.replicate 64 0) 0).length) := Lib.hid (by rw [List.size_toArray, hl]; exact Nat.le_of_eq (by rfl))
  have Hs2 : Hid ((Tryd.prog.info? 147).map (·.size) = some cs.toArray.size) := Lib.hid (by rw [size87, List.size_toArray, hl])
  have Hspl : Hid (splice (hcells (List.replicate 8 0) (List.replicate 64 0) 0) 0 cs = cs) := Lib.hid (splice_all' _ _ (by rw [hl]; rfl))
  clear hn72 hone hst8 hl
  go_enter Tryd.func63, Tryd.ntmps63
  go_wp2_with (first
    | (with_reducible refine at_alloc rfl ?_
       refine wpList_plain rfl (fun _ hK => wp_alloc rfl hA0 zero36 (fun b2 w1 hb2 hA1 => hK _ _ ?_)); clear hK
       replace hA1 : At w [(b2, 23, dc (List.replicate 32 0))] w1 := hA1)
    | (with_reducible refine at_alloc rfl ?_
       refine wpList_plain rfl (fun _ hK => wp_alloc rfl hA1 zero87 (fun b3 w2 hb3 hA2 => hK _ _ ?_)); clear hK
       replace hA2 : At w [(b3, 147, (hcells (List.replicate 8 0) (List.replicate 64 0) 0)), (b2, 23, dc (List.replicate 32 0))] w2 := hA2)
    | (with_reducible refine at_load rfl ?_
       refine wpList_plain rfl (fun _ hK => wp_loadRow (off := 0) (n := 73) rfl (hA1.add hrow (by simp; omega)) rfl 1 rfl row87 (by rw [Hl.out]; decide) (hK _ _ ?_)); clear hK
       rw [Htk.out])
    | (with_reducible refine at_store rfl ?_
       refine wpList_plain rfl (fun _ hK => wp_storeRow (off := 0) (new := cs.toArray) rfl hA2 rfl rfl 0 rfl Hs1.out Hone.out Hs2.out (fun w3 hA3 => hK _ _ ?_)); clear hK
       replace hA3 : At w [(b3, 147, splice (hcells (List.replicate 8 0) (List.replicate 64 0) 0) 0 cs), (b2, 23, dc (List.replicate 32 0))] w3 := hA3
       rw [Hspl.out] at hA3)
    | (with_reducible refine at_load rfl ?_
       refine wpList_plain rfl (fun _ hK => wp_load1 (off := 72) rfl hA3 rfl 0 rfl Hn.out no85 (hK _ _ ?_)); clear hK)
    | (with_reducible refine at_alloc rfl ?_
       refine wpList_plain rfl (fun _ hK => wp_alloc rfl hA3 zero88 (fun b5 w4 hb5 hA4 => hK _ _ ?_)); clear hK
       replace hA4 : At w [(b5, 148, dc (List.replicate 128 0)), (b3, 147, cs), (b2, 23, dc (List.replicate 32 0))] w4 := hA4)
    | (with_reducible refine at_store rfl ?_
       refine wpList_plain rfl (fun _ hK => wp_store1 (off := 0) rfl hA4 rfl (v := .int .u8 128) rfl 0 rfl (by decide) rfl size5 (fun w5 hA5 => hK _ _ ?_)); clear hK
       replace hA5 : At w [(b5, 148, dc (pd Z B 0)), (b3, 147, cs), (b2, 23, dc (List.replicate 32 0))] w5 := by rw [← HP0.out]; exact hA5))
  have q2 : b2 < b3 := by have := hA1.lt (k := 0) rfl; omega
  have q3 : b3 < b5 := by have := hA3.lt (k := 0) rfl; omega
  have hni : hb ∉ [b5, b3, b2] := by simp; omega
  clear eB hA1 hA2 hA3 hA4
  go_loopw [6] (fun p wr => ∃ k : Nat, 1 ≤ k ∧ k ≤ 1 + Z ∧ p = .int .i64 k ∧ At w [(b5, 148, dc (pd Z B 0)), (b3, 147, cs), (b2, 23, dc (List.replicate 32 0))] wr) (fun p _ => 100 - (intOf p).toNat)
  case atStart => exact ⟨1, by omega, by omega, rfl, hA5⟩
  case round =>
    clear hA5
    obtain ⟨k, hk1, hk2, rfl, hAr⟩ := hrel
    have e1 : IntKind.i64.wrap ((N : Int) % 64 + k) = (N : Int) % 64 + k := IntWalk.i64_in _ (by omega)
    have e2 : IntKind.i64.wrap ((k : Int) + 1) = (k : Int) + 1 := IntWalk.i64_in _ (by omega)
    by_cases hkz : k = 1 + Z
    · have h56 : ((N : Int) % 64 + k) % 64 = 56 := by have := HZ.out; have := HN.out; omega
      have HkZ := Lib.hid hkz
      clear hkz
      go_wp2_with (first
        | (with_reducible refine at_load rfl ?_
           refine wpList_plain rfl (fun _ hK => wp_loadOld (v := .int .u64 (N : Int)) rfl rfl ((hAr.old hlt hni _ _).trans Hc.out) no85 (hK _ _ ?_)); clear hK))
      clear e1 e2 h56 hk1 hk2
      generalize ((N : Int) % 64 + (k : Int)) % 64 = q1
      generalize (((N : Int) + (k : Int)) % 64 != 56) = q2
      have hkb : 1 ≤ k ∧ k ≤ 64 := by have := HkZ.out; omega
      generalize wr = wr0 at hAr
      go_loopw [31] (fun p wr => ∃ j : Nat, j ≤ 8 ∧ p = .int .i64 j ∧ At w [(b5, 148, dc (pd Z B j)), (b3, 147, cs), (b2, 23, dc (List.replicate 32 0))] wr) (fun p _ => 8 - (intOf p).toNat)
      case atStart => exact ⟨0, by omega, rfl, hAr⟩
      case round =>
        clear hAr
        obtain ⟨j, hj, rfl, hAr⟩ := hrel
        by_cases hj8 : j < 8
        · have e1 : IntKind.i64.wrap ((k : Int) + j) = (k : Int) + j := IntWalk.i64_in _ (by omega)
          have e2 : IntKind.i64.wrap (8 * (j : Int)) = 8 * (j : Int) := IntWalk.i64_in _ (by omega)
          have e3 : IntKind.i64.wrap (56 - 8 * (j : Int)) = 56 - 8 * (j : Int) := IntWalk.i64_in _ (by omega)
          have t1 : ((k : Int) + j).toNat = k + j := by omega
          have t2 : (56 - 8 * (j : Int)).toNat = 56 - 8 * j := by omega
          have l1 : 0 ≤ (k : Int) + j ∧ (k : Int) + j < 128 := by omega
          have l2 : 0 ≤ 56 - 8 * (j : Int) ∧ 56 - 8 * (j : Int) < 64 := by omega
          have l3 : (j : Int) < 8 := by omega
          have Hln := Lib.hid (show (dc (pd Z B j)).length = 128 by rw [dc_length, pd_length Z B j hZ hj])
          have Hst := Lib.hid (pd_step Z B j hZ hj8)
          rw [← HkZ.out] at Hst
          go_wp2_with (first
            | (with_reducible refine at_store rfl ?_
               go_loud (refine wpList_plain rfl (fun _ hK => wp_store1 (off := k + j) rfl hAr rfl (val_u8 (shr256 B (7 - j) (56 - 8 * j) (by omega))) 0 rfl (by rw [Hln.out]; omega) rfl size5 (fun w5 hA5 => hK _ _ ?_)); clear hK
                        replace hA5 : At w [(b5, 148, (dc (pd Z B j)).set (k + j) (.int .u8 ((B / 256 ^ (7 - j) : Nat) % 256 : Int))), (b3, 147, cs), (b2, 23, dc (List.replicate 32 0))] w5 := hA5
                        rw [Hst.out] at hA5)))
          clear e1 e2 e3 t1 t2 l1 l2
          go_roundw
          case rel =>
            exact ⟨j + 1, by omega, by go_num, hA5⟩
          case measure => simp [intOf]; omega
        · obtain rfl : j = 8 := by omega
          have e1 : IntKind.i64.wrap ((k : Int) + 8) = (k : Int) + 8 := IntWalk.i64_in _ (by omega)
          obtain ⟨l, HL⟩ : ∃ l, Hid (l = padding m.length) := ⟨_, rfl⟩
          have HLl := Lib.hid (show k + 8 = l.length by rw [HL.out, padding_length, HkZ.out, HZ.out]; omega)
          have HT0 : Hid (((dc (pd Z B 8)).drop 0).take l.length = dc l) := Lib.hid (by rw [HL.out, HZ.out, HB.out]; exact pd_end _)
          have hBt : Bts wr (some ⟨b5, 0, none⟩) l := Bts.row hAr (k := 0) rfl HT0.out
          have hg0 : 0 < w.heap.size := hT.lt
          have hl128 : l.length ≤ 128 := by have := HLl.out; omega
          have hsz2 : m.length + l.length < 1152921504606846976 := by have := HLl.out; have := HN.out; omega
          go_wp2_with (first
            | (with_reducible refine at_slice rfl ?_
               go_loud (refine wpList_plain rfl (fun _ hK => wp_sliceArr (l := 0) (h := k + 8) rfl Tryd.underlying148 size5 rfl (boundIs_none 0) (boundIs_int _ _ _ _ rfl) (by omega) (by omega) (hK _ _ ?_)); clear hK
                        rw [sub_zero, Nat.sub_zero, Nat.sub_zero, HLl.out]))
            | (go_at_call 62
               go_loud (refine (write_any wr b3 m cs hH (hAr.row (k := 1) rfl) (some ⟨b5, 0, none⟩) l 128 hBt hl128 (fun ad h => by cases h; exact (by omega : b5 ≠ b3)) hsz2 (hT.at_ hAr (by simp; omega)) (by omega)).mono ?_
                        rintro e' wx ⟨rfl, cs', hH', hAx⟩
                        have hA6 : At w [(b5, 148, dc (pd Z B 8)), (b3, 147, cs'), (b2, 23, dc (List.replicate 32 0))] wx := hAr.then1 (k := 1) rfl hAx
                        obtain ⟨hl', _, _, hst8'⟩ := hs_one hH'
                        obtain ⟨st, HSt⟩ : ∃ st, Hid (st = blocks ((m ++ l).length / 64) init8 (m ++ l)) := ⟨_, rfl⟩
                        rw [← HSt.out] at hst8'
                        have Hl' := Lib.hid hl'
                        have Hst8' := Lib.hid hst8'
                        clear hl' hst8' hAx))
            | (with_reducible refine at_alloc rfl ?_
               refine wpList_plain rfl (fun _ hK => wp_alloc rfl hA6 zero36 (fun b8 w7 hb8 hA7 => hK _ _ ?_)); clear hK
               replace hA7 : At w [(b8, 23, dc (List.replicate 32 0)), (b5, 148, dc (pd Z B 8)), (b3, 147, cs'), (b2, 23, dc (List.replicate 32 0))] w7 := hA7)
            | (with_reducible refine at_load rfl ?_
               go_loud (refine wpList_plain rfl (fun _ hK => wp_loadRow (off := 0) (n := 8) rfl hA7 rfl 2 rfl row82 (by rw [Hl'.out]; decide) (hK _ _ ?_)); clear hK
                        rw [Hst8'.out])))
          have Hst8 : Hid (st.length = 8) := Lib.hid (by rw [HSt.out]; exact blocks_length _ _ _ rfl)
          have HAt : ∀ i, i < 8 → Hid ((wc st).toArray[i]? = some (.int .u32 (wAt st i : Nat))) := fun i hi => Lib.hid (by simpa using wc_at (l := st) (by rw [Hst8.out]; exact hi))
          have HSha : Hid (ob st (4 * 8) = sha m) := Lib.hid (by rw [ob_end st Hst8.out, HSt.out, HL.out]; rfl)
          have r8 : b5 < b8 := by have := hA6.lt (k := 0) rfl; omega
          have hA8 : At w [(b8, 23, dc (ob st (4 * 0))), (b5, 148, dc (pd Z B 8)), (b3, 147, cs'), (b2, 23, dc (List.replicate 32 0))] w7 := hA7
          clear hA7 hA6 hAr e1
          go_loopw [51] (fun p wr => ∃ i : Nat, i ≤ 8 ∧ p = .int .i64 i ∧ At w [(b8, 23, dc (ob st (4 * i))), (b5, 148, dc (pd Z B 8)), (b3, 147, cs'), (b2, 23, dc (List.replicate 32 0))] wr) (fun p _ => 8 - (intOf p).toNat)
          case atStart => exact ⟨0, by omega, rfl, hA8⟩
          case round =>
            clear hA8
            obtain ⟨i, hi, rfl, hAr⟩ := hrel
            by_cases hi8 : i < 8
            · have l3 : (i : Int) < 8 := by omega
              have HAi := HAt i hi8
              go_wp2_with (first
                | (with_reducible refine at_index rfl ?_
                   go_loud (refine wpList_plain rfl (fun _ hK => wp_indexArr (k := i) rfl Tryd.underlying143 (by kernel_rfl) size80 rfl rfl hi8 HAi.out (hK _ _ ?_)); clear hK)))
              generalize wr = wr1 at hAr
              go_loopw [55] (fun p wr => ∃ j : Nat, j ≤ 4 ∧ p = .int .i64 j ∧ At w [(b8, 23, dc (ob st (4 * i + j))), (b5, 148, dc (pd Z B 8)), (b3, 147, cs'), (b2, 23, dc (List.replicate 32 0))] wr) (fun p _ => 4 - (intOf p).toNat)
              case atStart => exact ⟨0, by omega, rfl, hAr⟩
              case round =>
                clear hAr
                obtain ⟨j, hj, rfl, hAr⟩ := hrel
                by_cases hj4 : j < 4
                · have e1 : IntKind.i64.wrap (4 * (i : Int) + j) = 4 * (i : Int) + j := IntWalk.i64_in _ (by omega)
                  have e0 : IntKind.i64.wrap (4 * (i : Int)) = 4 * (i : Int) := IntWalk.i64_in _ (by omega)
                  have e2 : IntKind.i64.wrap (8 * (j : Int)) = 8 * (j : Int) := IntWalk.i64_in _ (by omega)
                  have e3 : IntKind.i64.wrap (24 - 8 * (j : Int)) = 24 - 8 * (j : Int) := IntWalk.i64_in _ (by omega)
                  have t1 : (4 * (i : Int) + j).toNat = 4 * i + j := by omega
                  have t2 : (24 - 8 * (j : Int)).toNat = 24 - 8 * j := by omega
                  have l1 : 0 ≤ 4 * (i : Int) + j ∧ 4 * (i : Int) + j < 32 := by omega
                  have l2 : 0 ≤ 24 - 8 * (j : Int) ∧ 24 - 8 * (j : Int) < 32 := by omega
                  have l4 : (j : Int) < 4 := by omega
                  have Hln := Lib.hid (show (dc (ob st (4 * i + j))).length = 32 by rw [dc_length, ob_length st Hst8.out _ (by omega)])
                  have Hst := Lib.hid (ob_step st Hst8.out i j hi8 hj4)
                  go_wp2_with (first
                    | (with_reducible refine at_store rfl ?_
                       go_loud (refine wpList_plain rfl (fun _ hK => wp_store1 (off := 4 * i + j) rfl hAr rfl (val_u8 (shr256 (wAt st i) (3 - j) (24 - 8 * j) (by omega))) 0 rfl (by rw [Hln.out]; omega) rfl size5 (fun w5 hA5 => hK _ _ ?_)); clear hK
                                replace hA5 : At w [(b8, 23, (dc (ob st (4 * i + j))).set (4 * i + j) (.int .u8 ((wAt st i / 256 ^ (3 - j) : Nat) % 256 : Int))), (b5, 148, dc (pd Z B 8)), (b3, 147, cs'), (b2, 23, dc (List.replicate 32 0))] w5 := hA5
                                rw [Hst.out] at hA5)))
                  clear e0 e1 e2 e3 t1 t2 l1 l2
                  go_roundw
                  case rel =>
                    exact ⟨j + 1, by omega, by go_num, hA5⟩
                  case measure => simp [intOf]; omega
                · obtain rfl : j = 4 := by omega
                  go_wp2
                  go_roundw
                  case rel =>
                    exact ⟨i + 1, by omega, by go_num, hAr⟩
                  case measure => simp [intOf]; omega
            · obtain rfl : i = 8 := by omega
              rw [HSha.out] at hAr
              have Hs36 : Hid ((dc (sha m)).length = 32) := Lib.hid (by rw [dc_length, ← HSha.out, ob_length st Hst8.out _ (by omega)])
              have Htk : Hid (((dc (sha m)).drop 0).take 32 = dc (sha m)) := Lib.hid (by rw [List.drop_zero, List.take_of_length_le (by rw [Hs36.out]; exact Nat.le_refl _)])
              have Hz1 : Hid (0 + (dc (sha m)).toArray.size ≤ (dc (List.replicate 32 0)).length) := Lib.hid (by rw [List.size_toArray, Hs36.out]; exact Nat.le_of_eq (by rfl))
              have Hz2 : Hid ((Tryd.prog.info? 23).map (·.size) = some (dc (sha m)).toArray.size) := Lib.hid (by rw [size36, List.size_toArray, Hs36.out])
              have Hz3 : Hid (∀ v ∈ (dc (sha m)).toArray, v.oneCell' = true) := Lib.hid (fun v hv => dc_one _ v (by simpa using hv))
              have Hz4 : Hid (splice (dc (List.replicate 32 0)) 0 (dc (sha m)) = dc (sha m)) := Lib.hid (splice_all' _ _ (by rw [Hs36.out]; rfl))
              go_wp2_with (first
                | (with_reducible refine at_load rfl ?_
                   go_loud (refine wpList_plain rfl (fun _ hK => wp_loadRow (off := 0) (n := 32) rfl hAr rfl 0 rfl row36 (by rw [Hs36.out]; decide) (hK _ _ ?_)); clear hK
                            rw [Htk.out]))
                | (with_reducible refine at_store rfl ?_
                   go_loud (refine wpList_plain rfl (fun _ hK => wp_storeRow (off := 0) (new := (dc (sha m)).toArray) rfl hAr rfl rfl 3 rfl Hz1.out Hz3.out Hz2.out (fun w9 hA9 => hK _ _ ?_)); clear hK
                            replace hA9 : At w [(b8, 23, dc (sha m)), (b5, 148, dc (pd Z B 8)), (b3, 147, cs'), (b2, 23, splice (dc (List.replicate 32 0)) 0 (dc (sha m)))] w9 := hA9
                            rw [Hz4.out] at hA9)))
              refine bodyPost_ret (results_cell Tryd.results63 hA9 rfl 3 rfl (by rw [Hs36.out]; exact row36)) rfl ⟨rfl, hA9.clear (fun r hr => ?_)⟩
              simp only [List.mem_cons, List.not_mem_nil, or_false] at hr
              rcases hr with rfl | rfl | rfl | rfl <;> simp only <;> omega
    · have h56 : ((N : Int) % 64 + k) % 64 ≠ 56 := by have := HZ.out; have := HN.out; omega
      go_wp2_with (first
        | (with_reducible refine at_load rfl ?_
           refine wpList_plain rfl (fun _ hK => wp_loadOld (v := .int .u64 (N : Int)) rfl rfl ((hAr.old hlt hni _ _).trans Hc.out) no85 (hK _ _ ?_)); clear hK))
      go_roundw
      case rel =>
        exact ⟨k + 1, by omega, by omega, by go_num, hAr⟩
      case measure => simp [intOf]; omega
end Go.Proofs.YtpomngkcfbnjoaaDoor

/- Slices of bytes that are made: make, append onto nil. Plain lemmas over the model; no program. -/
namespace Go.Dk
open Go Go.RowKit
/-- cells of one byte -/
def byteInfo (P : Program) (e : TypeId) : Prop := (P.info? e).map (fun i => (i.zero, i.size, i.bytes)) = some (some (.int .u8 0), 1, 1)
theorem byteInfo_spec {P : Program} {e : TypeId} (h : byteInfo P e) : ∃ i, P.info? e = some i ∧ i.zero = some (.int .u8 0) ∧ i.size = 1 ∧ i.bytes = 1 := by
  unfold byteInfo at h
  cases hi : P.info? e with
  | none => simp [hi] at h
  | some i =>
    rw [hi] at h
    simp only [Option.map_some, Option.some.injEq, Prod.mk.injEq] at h
    exact ⟨i, rfl, h.1, h.2.1, h.2.2⟩
theorem Bts.fresh {w0 w : World} {L : List Row} {A : Option Addr} {l : List UInt8} (h : Bts w0 A l) (hA : At w0 L w) (hn : ∀ r ∈ L, w0.heap.size ≤ r.1) : Bts w A l := fun hne => by
  obtain ⟨b, o, rfl, hb, hc⟩ := h hne
  have hs := hA.size
  refine ⟨b, o, rfl, by omega, fun i hi => (hA.old hb (fun hm => ?_) _ _).trans (hc i hi)⟩
  obtain ⟨r, hr, rfl⟩ := List.mem_map.1 hm
  have := hn r hr
  omega
section
variable {P : Program} {ops : Array Oper} {Q : Exit → Act → World → Prop} {a : Act} {w0 w : World} {L : List Row} {rest : List Oper} {o : Oper}
/-- a slice literal -/
theorem wp_bs {K : Act → World → Prop} {t : TypeId} {n : Nat} {ps : Array (Nat × Operand)} (ho : o.op = .buildSlice t n ps) (hA : At w0 L w) {e : TypeId} {cells : Array Value}
    (hr : (Instr.buildSlice t n (ps.map fun (i, x) => (i, a.eval x))).run P w = .ok (.slice (some ⟨w.heap.size, 0, none⟩) n n) (w.alloc (.cells cells e)))
    (h : ∀ g w', w.heap.size ≤ g → At w0 ((g, e, cells.toList) :: L) w' → K (a.put o.dst (.slice (some ⟨g, 0, none⟩) n n)) w') : o.wp P a w K Q := by
  have h1 := h w.heap.size (w.alloc (.cells cells e)) (Nat.le_refl _) (hA.alloc _ _)
  unfold Oper.wp execOp
  simp only [ho, Sem.run_bind, hr, Result.andThen_ok, Sem.run_pure]
  exact h1
theorem wp_bs1 {K : Act → World → Prop} {t : TypeId} {x : Operand} (ho : o.op = .buildSlice t 1 #[(0, x)]) (hA : At w0 L w) {v : Value} (hx : a.eval x = v) {e : TypeId} {cells : Array Value}
    (hr : (Instr.buildSlice t 1 #[(0, v)]).run P w = .ok (.slice (some ⟨w.heap.size, 0, none⟩) 1 1) (w.alloc (.cells cells e)))
    (h : ∀ g w', w.heap.size ≤ g → At w0 ((g, e, cells.toList) :: L) w' → K (a.put o.dst (.slice (some ⟨g, 0, none⟩) 1 1)) w') : o.wp P a w K Q := by
  subst hx
  exact wp_bs ho hA (by simpa using hr) h
end
end Go.Dk

/- The walks of docketbook's Same, Intact and Roomy over bytes. -/
namespace Go.Proofs.YtpomngkcfbnjoaaDoor
open Go.RowKit Go.Dk

theorem bk_size5 : (Tryd.prog.info? 5).map (·.size) = some 1 := by kernel_rfl
end Go.Proofs.YtpomngkcfbnjoaaDoor

/- The walks of turned, Must. -/
namespace Go.Proofs.YtpomngkcfbnjoaaDoor
open Go.RowKit Go.Dk

theorem mu_zero36 : zeroIs Tryd.prog 23 (.agg (dc (List.replicate 32 0)).toArray) := by unfold zeroIs; kernel_rfl
theorem mu_row36 : isRow Tryd.prog 23 32 = true := by kernel_rfl
theorem mu_size36 : (Tryd.prog.info? 23).map (·.size) = some 32 := by kernel_rfl

end Go.Proofs.YtpomngkcfbnjoaaDoor

/- The walks of digest.Sum, hex, written. -/
namespace Go.Proofs.YtpomngkcfbnjoaaDoor
open Go.RowKit Go.Dk

theorem sha_length (m : List UInt8) : (sha m).length = 32 := by
  rw [sha_eq, flat_length, blocks_length _ _ _ rfl]

/-- the address, if there is one, lies in memory -/
def In (w : World) (A : Option Addr) : Prop := ∀ ad, A = some ad → ad.block < w.heap.size
theorem In.size {w w' : World} {A : Option Addr} (h : In w A) (hs : w.heap.size ≤ w'.heap.size) : In w' A := fun ad he => Nat.lt_of_lt_of_le (h ad he) hs
theorem In.off {w : World} {A : Option Addr} {g : Nat} (h : In w A) (hg : w.heap.size ≤ g) : Off A g := fun ad he => by have := h ad he; omega

end Go.Proofs.YtpomngkcfbnjoaaDoor

/- Small rules of the walk: which operation stands next, by the slot that it writes. Plain lemmas over the model; no program. -/
namespace Go.Dk
open Go Go.RowKit
section
variable {P : Program} {ops : Array Oper} {Q : Exit → Act → World → Prop} {a : Act} {w0 w : World} {L : List Row} {rest : List Oper} {o : Oper}
theorem val_u64 {a b : Int} (h : a = b) : Value.int .u64 a = .int .u64 b := by rw [h]
end
end Go.Dk

/- A slice of one's own that is appended to again and again: nil, or a row of its own at the list's end. Plain lemmas over the model; no program. -/
namespace Go.Dk
open Go Go.RowKit
theorem At.perm {w0 w : World} {L L' : List Row} (h : At w0 L w) (hp : L.Perm L') : At w0 L' w :=
  ⟨h.os, h.tape, h.output, h.size, fun r hr => h.rows r (hp.mem_iff.2 hr), (hp.map (·.1)).nodup_iff.1 h.dist,
   fun k hk hn => h.frame k hk (fun hm => hn ((hp.map (·.1)).mem_iff.1 hm))⟩
/-- what is known of an element's type: its zero, its cells, its bytes -/
def elemInfo (P : Program) (e : TypeId) (size bytes : Nat) : Prop := ∃ i z, P.info? e = some i ∧ i.zero = some z ∧ i.size = size ∧ i.bytes = bytes ∧ z.cells.size = size
theorem elemInfo_byte {P : Program} {e : TypeId} (h : byteInfo P e) : elemInfo P e 1 1 := by
  obtain ⟨i, h1, h2, h3, h4⟩ := byteInfo_spec h
  exact ⟨i, _, h1, h2, h3, h4, rfl⟩
theorem elemInfo_of {P : Program} {e : TypeId} {size bytes : Nat} {z : Value} (h : (P.info? e).map (fun i => (i.zero, i.size, i.bytes)) = some (some z, size, bytes)) (hz : z.cells.size = size) : elemInfo P e size bytes := by
  cases hi : P.info? e with
  | none => simp [hi] at h
  | some i =>
    rw [hi] at h
    simp only [Option.map_some, Option.some.injEq, Prod.mk.injEq] at h
    exact ⟨i, z, hi, h.1, h.2.1, h.2.2, hz⟩
/-- the slice v, of n elements, holds the cells W; X: its row, if it has one -/
def Own (w0 : World) (e : TypeId) (size : Nat) (X : List Row) (v : Value) (n : Nat) (W : List Value) : Prop :=
  W.length = n * size ∧ ((v = .slice none 0 0 ∧ n = 0 ∧ X = []) ∨ ∃ g c Z, v = .slice (some ⟨g, 0, none⟩) n c ∧ n ≤ c ∧ w0.heap.size ≤ g ∧ Z.length = (c - n) * size ∧ X = [(g, e, W ++ Z)])
theorem Own.nil (w0 : World) (e : TypeId) (size : Nat) : Own w0 e size [] (.slice none 0 0) 0 [] := ⟨by simp, .inl ⟨rfl, rfl, rfl⟩⟩
section
variable {w0 w : World} {R X : List Row} {e : TypeId} {size n : Nat} {v : Value} {W : List Value}
theorem Own.slice (h : Own w0 e size X v n W) : ∃ A c, v = .slice A n c ∧ n ≤ c := by
  rcases h.2 with ⟨h1, h2, _⟩ | ⟨g, c, _, h1, h2, _⟩
  · subst h2; exact ⟨_, _, h1, Nat.le_refl _⟩
  · exact ⟨_, _, h1, h2⟩
theorem Own.new (h : Own w0 e size X v n W) : ∀ r ∈ X, w0.heap.size ≤ r.1 := by
  rcases h.2 with ⟨_, _, h3⟩ | ⟨g, c, Z, _, _, h3, _, h5⟩
  · subst h3; intro r hr; cases hr
  · subst h5; intro r hr; simp only [List.mem_singleton] at hr; subst hr; exact h3
/-- its bytes can be read -/
theorem Own.bts {l : List UInt8} (h : Own w0 e 1 X v n (dc l)) (hA : At w0 (R ++ X) w) : ∃ A c, v = .slice A n c ∧ n ≤ c ∧ n = l.length ∧ Bts w A l ∧ ∀ ad, A = some ad → ad.block < w.heap.size ∧ w0.heap.size ≤ ad.block ∧ ad.block ∈ X.map (·.1) := by
  have hn : n = l.length := by have := h.1; rw [dc_length] at this; omega
  rcases h.2 with ⟨h1, h2, _⟩ | ⟨g, c, Z, h1, h2, h3, _, h5⟩
  · have : l = [] := List.length_eq_zero_iff.1 (by omega)
    subst this
    subst h2
    exact ⟨_, _, h1, Nat.le_refl _, hn, Bts.nil _ _, fun ad he => by cases he⟩
  · subst h5
    have hk : (R ++ [(g, e, dc l ++ Z)])[R.length]? = some (g, e, dc l ++ Z) := by simp
    refine ⟨_, _, h1, h2, hn, Bts.row hA hk (by rw [List.drop_zero, List.take_append_of_le_length (by rw [dc_length]; exact Nat.le_refl _), List.take_of_length_le (by rw [dc_length]; exact Nat.le_refl _)]), fun ad he => ?_⟩
    cases he
    exact ⟨hA.lt hk, h3, by simp⟩
theorem zc_length (zs : Array Value) (n : Nat) : (Builtin.zeroCells zs n).toList.length = n * zs.size := by simp [Builtin.zeroCells]
end
section
variable {P : Program} {ops : Array Oper} {Q : Exit → Act → World → Prop} {a : Act} {w0 w : World} {R X : List Row} {rest : List Oper} {o : Oper}
theorem Bts.src {A : Option Addr} {l : List UInt8} {c : Nat} {tx e' : TypeId} (hux : P.underlying tx = some (.slice e')) (hr : Bts w A l) : Src P 1 tx (.slice A l.length c) l.length (dc l) w := by
  by_cases hl : l = []
  · subst hl
    cases A with
    | none => exact Src.ofNil w hux c
    | some ad => exact Src.ofSlice w hux ad 0 c [] (by simp) (fun j u hj => by simp at hj) (fun u hu => by cases hu)
  · obtain ⟨b, o', rfl, hbl, hcell⟩ := hr hl
    exact Src.ofSlice w hux ⟨b, o', none⟩ l.length c (dc l) (by rw [dc_length, Nat.mul_one])
      (fun j u hj => by
        have hjl : j < l.length := by have := (List.getElem?_eq_some_iff.1 hj).1; rwa [dc_length] at this
        rw [dc_at hjl] at hj
        rw [Addr.add_mid, hcell j hjl, ← hj]) (dc_one l)
/-- setCells of a part of a row -/
theorem At.setCells {L : List Row} {k g : Nat} {t : TypeId} {cs new : List Value} {off : Nat} (h : At w0 L w) (hk : L[k]? = some (g, t, cs)) (hl : off + new.length ≤ cs.length) :
    At w0 (L.set k (g, t, splice cs off new)) (w.setCells g off new) := by
  induction new generalizing off w L cs with
  | nil =>
    have e1 : splice cs off [] = cs := by simp [splice]
    have e2 : L.set k (g, t, cs) = L := by
      apply List.ext_getElem?
      intro i
      rw [List.getElem?_set]
      split
      · rename_i e
        subst e
        obtain ⟨hkl, hv⟩ := List.getElem?_eq_some_iff.1 hk
        simp [hkl, hv]
      · rfl
    rw [e1, e2]
    exact h
  | cons v rest ih =>
    have hkl : k < L.length := (List.getElem?_eq_some_iff.1 hk).1
    simp only [List.length_cons] at hl
    have h1 := h.put hk (cs.set off v)
    have hs : w.setCell ⟨g, off, none⟩ v = w.setRow g (cs.set off v).toArray := by
      rw [setCell_eq_setRow w g off _ t (0, 0) v (h.row hk)]
      simp
    rw [← hs] at h1
    have h2 := ih (off := off + 1) (cs := cs.set off v) h1 (by simp [hkl]) (by simp; omega)
    have e1 : splice (cs.set off v) (off + 1) rest = splice cs off (v :: rest) := by
      unfold splice
      have hoff : off < cs.length := by omega
      rw [List.take_set, List.take_succ_eq_append_getElem hoff, List.set_append, if_neg (by rw [List.length_take]; omega), List.length_take, show off - min off cs.length = 0 by omega, List.drop_set_of_lt (by omega)]
      simp [Nat.add_assoc, Nat.add_comm 1]
    rw [e1, List.set_set] at h2
    exact h2
theorem own_append {y : Operand} {x : Operand} {t tx e : TypeId} {size bytes : Nat} (ho : o.op = .call { callee := .builtin .append, args := #[x, y], argTypes := #[t, tx] })
    (hA : At w0 (R ++ X) w) {v : Value} {n : Nat} {W : List Value} (hO : Own w0 e size X v n W) (hu : P.underlying t = some (.slice e)) (hb : elemInfo P e size bytes) (hx : a.eval x = v)
    {yv : Value} (hy : a.eval y = yv) {m : Nat} {news : List Value} (hs : Src P size tx yv m news w) (hmax : (n + m + (n + m) / 4 + 192) * bytes ≤ 281474976710656) (hbp : 0 < bytes) :
    ∃ v' X' w', (execOp a.eval o).run P w = .ok (.value v') w' ∧ Own w0 e size X' v' (n + m) (W ++ news) ∧ At w0 (R ++ X') w' := by
  obtain ⟨i, z, hi, hz, hsz, hbb, hzs⟩ := hb
  have hmx : n + m + (n + m) / 4 + 192 ≤ 281474976710656 := Nat.le_trans (Nat.le_mul_of_pos_right _ hbp) hmax
  have hs' : Src P i.size tx yv m news w := by rw [hsz]; exact hs
  have hgrow : ∀ (A : Option Addr) (c : Nat) (olds : List Value), olds = W → v = .slice A n c → c < n + m → (Builtin.firstCells i.size n (.slice A n c)).run P w.drew = .ok olds.toArray w.drew → (∀ r ∈ X, w0.heap.size ≤ r.1) →
      ∃ v' X' w', (execOp a.eval o).run P w = .ok (.value v') w' ∧ Own w0 e size X' v' (n + m) (W ++ news) ∧ At w0 (R ++ X') w' := by
    intro A c olds he hv hg hold hX
    subst he hv
    have hcap : Builtin.nextslicecap (n + m) c * i.bytes ≤ 281474976710656 := by
      have h1 := nextslicecap_le_wide (need := n + m) (old := c) hg
      rw [hbb]
      exact Nat.le_trans (Nat.mul_le_mul_right _ h1) hmax
    have hrun := run_append_grow_src (P := P) w t tx o.type e i z hu hi hz A n c olds hold yv m news hs' hg (by omega) hcap
    have hqge := grownCap_ge w (n + m) c e
    generalize grownCap w (n + m) c e = q at hrun hqge
    have h1 := hA.drew.alloc ((olds ++ news).toArray ++ Builtin.zeroCells z.cells (q - (n + m))) e
    rw [Array.toList_append, List.toList_toArray] at h1
    refine ⟨.slice (some ⟨w.heap.size, 0, none⟩) (n + m) q, [(w.heap.size, e, (olds ++ news) ++ (Builtin.zeroCells z.cells (q - (n + m))).toList)], w.drew.alloc (.cells ((olds ++ news).toArray ++ Builtin.zeroCells z.cells (q - (n + m))) e), ?_, ⟨?_, .inr ⟨w.heap.size, q, (Builtin.zeroCells z.cells (q - (n + m))).toList, rfl, hqge, hA.size, by rw [zc_length, hzs], rfl⟩⟩, ?_⟩
    · unfold execOp
      simp only [ho, hx, hy, resolve, invoke, builtin, Sem.run_bind, Sem.run_pure, Result.andThen_ok, List.map_toArray, List.map_cons, List.map_nil, hrun]
    · rw [List.length_append, hO.1, hs.newsLen, Nat.add_mul]
    · have h2 : At w0 (((w.heap.size, e, (olds ++ news) ++ (Builtin.zeroCells z.cells (q - (n + m))).toList) : Row) :: R) (w.drew.alloc (.cells ((olds ++ news).toArray ++ Builtin.zeroCells z.cells (q - (n + m))) e)) := by
        refine h1.drop (List.Sublist.cons_cons _ (List.sublist_append_left _ _)) (fun r hr hlt => ?_)
        simp only [List.mem_cons, List.mem_append] at hr ⊢
        rcases hr with rfl | hr | hr
        · exact .inl rfl
        · exact .inr hr
        · exact absurd (hX r hr) (by omega)
      exact h2.perm (by exact (List.perm_append_singleton _ _).symm)
  rcases hO.2 with ⟨hv, hn, hX⟩ | ⟨g, c, Z, hv, hnc, hg, hZ, hX⟩
  · subst hn
    have hW : W = [] := List.length_eq_zero_iff.1 (by rw [hO.1]; omega)
    by_cases hm : m = 0
    · subst hm
      have hnews : news = [] := List.length_eq_zero_iff.1 (by rw [hs.newsLen]; omega)
      refine ⟨v, X, w, ?_, by rw [hnews, List.append_nil]; exact hO, hA⟩
      subst hv
      have hlen := hs'.len w
      have hcells := hs'.cells
      rw [hnews] at hcells
      unfold execOp
      rcases hs.kind with ⟨e', hk⟩ | hk <;>
        simp [ho, hx, hy, resolve, invoke, builtin, Builtin.append_, run_underlying hu, run_underlying hk, sizeOf, typeInfo, hi, hlen, hcells]
    · exact hgrow none 0 [] hW.symm hv (by omega) (run_firstCells_none w.drew i.size 0 0 0) hO.new
  · subst hX
    have hk : (R ++ [(g, e, W ++ Z)])[R.length]? = some (g, e, W ++ Z) := by simp
    by_cases hroom : n + m ≤ c
    · have hnl : news.length ≤ Z.length := by
        rw [hs.newsLen, hZ]; exact Nat.mul_le_mul_right _ (by omega)
      have hWl : n * i.size = W.length := by rw [hsz, hO.1]
      have hrun := run_append_room_src (P := P) w t tx o.type e i hu hi g 0 n c yv m news hs' hroom
        (fun j hj => by
          rw [hA.cell hk, Nat.zero_add, hWl, List.getElem?_eq_getElem (by rw [List.length_append]; omega)]; rfl)
        (fun j hj => hA.frozen hk _)
      rw [Nat.zero_add, hWl] at hrun
      have h1 := hA.setCells (off := W.length) (new := news) hk (by rw [List.length_append]; omega)
      have e1 : splice (W ++ Z) W.length news = (W ++ news) ++ Z.drop news.length := by
        unfold splice
        rw [List.take_left' rfl, List.drop_append, List.drop_of_length_le (by omega), List.nil_append, show W.length + news.length - W.length = news.length by omega]
      have e2 : (R ++ [(g, e, W ++ Z)]).set R.length (g, e, (W ++ news) ++ Z.drop news.length) = R ++ [(g, e, (W ++ news) ++ Z.drop news.length)] := by simp
      rw [e1, e2] at h1
      refine ⟨.slice (some ⟨g, 0, none⟩) (n + m) c, _, _, ?_, ⟨?_, .inr ⟨g, c, Z.drop news.length, rfl, hroom, hg, ?_, rfl⟩⟩, h1⟩
      · unfold execOp
        simp only [ho, hx, hy, hv, resolve, invoke, builtin, Sem.run_bind, Sem.run_pure, Result.andThen_ok, List.map_toArray, List.map_cons, List.map_nil, hrun]
      · rw [List.length_append, hO.1, hs.newsLen, Nat.add_mul]
      · rw [List.length_drop, hZ, hs.newsLen, ← Nat.sub_mul, Nat.sub_sub]
    · refine hgrow (some ⟨g, 0, none⟩) c W rfl hv (by omega) ?_ hO.new
      exact run_firstCells_some (P := P) w.drew i.size n ⟨g, 0, none⟩ n c W (by rw [hO.1, hsz]) (fun j u hj => by
        rw [Addr.add_mid, hA.drew.cell hk, Nat.zero_add, List.getElem?_append_left (List.getElem?_eq_some_iff.1 hj).1, hj])
theorem wp_own_append {K : Act → World → Prop} {y : Operand} {x : Operand} {t tx e : TypeId} {size bytes : Nat} (ho : o.op = .call { callee := .builtin .append, args := #[x, y], argTypes := #[t, tx] })
    (R : List Row) (hA : At w0 (R ++ X) w) {v : Value} {n : Nat} {W : List Value} (hO : Own w0 e size X v n W) (hu : P.underlying t = some (.slice e)) (hb : elemInfo P e size bytes) (hx : a.eval x = v)
    {yv : Value} (hy : a.eval y = yv) {m : Nat} {news : List Value} (hs : Src P size tx yv m news w) (hmax : (n + m + (n + m) / 4 + 192) * bytes ≤ 281474976710656) (hbp : 0 < bytes)
    (h : ∀ v' X' w', Own w0 e size X' v' (n + m) (W ++ news) → At w0 (R ++ X') w' → K (a.put o.dst v') w') : o.wp P a w K Q := by
  obtain ⟨v', X', w', h1, h2, h3⟩ := own_append ho hA hO hu hb hx hy hs hmax hbp
  unfold Oper.wp
  rw [h1]
  exact h v' X' w' h2 h3
end
end Go.Dk

/- A walk over named slots: of an activation only the slots that matter are known ('Fr'); each operation has a rule with its value written out. Plain lemmas over the model; no program. -/
namespace Go.Dk
open Go Go.RowKit

def look : List (Nat × Value) → Nat → Option Value
  | [], _ => none
  | (k, v) :: r, s => bif Nat.beq k s then some v else look r s
structure Fr (n : Nat) (F : List (Nat × Value)) (a : Act) : Prop where
  size : a.tmps.size = n
  defers : a.defers = []
  has : ∀ s v, look F s = some v → a.tmps[s]? = some v
def ev (F : List (Nat × Value)) : Operand → Option Value
  | .tmp s => look F s
  | .const v => some v
  | .global g => some (.pointer (some ⟨g, 0, none⟩))
  | .func f => some (.func (.func f) #[] #[])
section
variable {n : Nat} {F : List (Nat × Value)} {a : Act}
theorem Fr.at (h : Fr n F a) {s : Nat} {v : Value} (hl : look F s = some v) : a.tmps.getD s undef = v := by
  have h1 := h.has s v hl
  simp [Array.getD_eq_getD_getElem?, h1]
theorem Fr.ev (h : Fr n F a) {x : Operand} {v : Value} (hx : ev F x = some v) : a.eval x = v := by
  cases x with
  | tmp s => exact h.at hx
  | const c => exact Option.some.inj hx
  | global g => exact Option.some.inj hx
  | func f => exact Option.some.inj hx
theorem Fr.put (h : Fr n F a) {d : Nat} {v : Value} (hd : d < n) : Fr n ((d, v) :: F) (a.put (some d) v) := by
  refine ⟨by simp [Act.put, h.size], h.defers, fun s u hs => ?_⟩
  simp only [look] at hs
  simp only [Act.put]
  cases hb : Nat.beq d s with
  | true =>
    rw [hb] at hs
    have e : d = s := Nat.eq_of_beq_eq_true hb
    subst e
    simp only [cond_true, Option.some.injEq] at hs
    subst hs
    simp [h.size, hd]
  | false =>
    rw [hb] at hs
    have e : d ≠ s := fun e => by subst e; rw [Nat.beq_refl] at hb; cases hb
    rw [Array.getElem?_setIfInBounds]
    rw [if_neg e]
    exact h.has s u hs
def pick (F : List (Nat × Value)) : List Nat → List (Nat × Value)
  | [] => []
  | s :: r => match look F s with
    | some v => (s, v) :: pick F r
    | none => pick F r
theorem look_pick (F : List (Nat × Value)) (ks : List Nat) (s : Nat) (v : Value) (h : look (pick F ks) s = some v) : look F s = some v := by
  induction ks with
  | nil => cases h
  | cons k r ih =>
    simp only [pick] at h
    cases hk : look F k with
    | none => rw [hk] at h; exact ih h
    | some u =>
      rw [hk] at h
      simp only [look] at h
      cases hb : Nat.beq k s with
      | true =>
        rw [hb] at h
        have e : k = s := Nat.eq_of_beq_eq_true hb
        subst e
        simp only [cond_true, Option.some.injEq] at h
        rw [hk, h]
      | false => rw [hb] at h; exact ih h
theorem Fr.keep (h : Fr n F a) (ks : List Nat) {F' : List (Nat × Value)} (hp : pick F ks = F') : Fr n F' a :=
  ⟨h.size, h.defers, fun s v hs => h.has s v (look_pick F ks s v (by rw [hp]; exact hs))⟩
theorem Fr.cast (h : Fr n F a) {F' : List (Nat × Value)} (hp : F = F') : Fr n F' a := by subst hp; exact h
end

/-- the arguments' slots -/
def slots : List Value → Nat → List (Nat × Value)
  | [], _ => []
  | v :: r, i => (i, v) :: slots r (i + 1)
theorem look_slots (l : List Value) (i s : Nat) (v : Value) (h : look (slots l i) s = some v) : i ≤ s ∧ l[s - i]? = some v := by
  induction l generalizing i with
  | nil => cases h
  | cons u r ih =>
    simp only [slots, look] at h
    cases hb : Nat.beq i s with
    | true =>
      rw [hb] at h
      have e : i = s := Nat.eq_of_beq_eq_true hb
      subst e
      simp only [cond_true, Option.some.injEq] at h
      exact ⟨Nat.le_refl _, by rw [Nat.sub_self, h]; rfl⟩
    | false =>
      rw [hb] at h
      obtain ⟨h1, h2⟩ := ih (i + 1) h
      refine ⟨by omega, ?_⟩
      rw [show s - i = (s - (i + 1)) + 1 by omega, List.getElem?_cons_succ]
      exact h2
section
variable {P : Program} {Q : Exit → Act → World → Prop} {w w0 : World} {n : Nat} {F : List (Nat × Value)} {a : Act}
theorem vc_enter {f : FuncId} {fn : Func} {c : Code} {args : List Value} {R : Ending → World → Prop} (hf : P.funcs[f]? = some fn) (hb : fn.body = some c) (hn : fn.ntmps = n) (hle : args.length ≤ n)
    (h : ∀ a, Fr n (slots args 0) a → c.wp P (bodyPost P fn R) a w) : Calls P f args.toArray w R := by
  refine calls_of_wp hf hb (h _ ⟨by simp [hn]; omega, rfl, fun s v hs => ?_⟩)
  obtain ⟨_, h2⟩ := look_slots _ _ _ _ hs
  rw [Nat.sub_zero] at h2
  have hs : s < args.length := (List.getElem?_eq_some_iff.1 h2).1
  show (args.toArray ++ Array.replicate _ undef)[s]? = some v
  rw [Array.getElem?_append_left (by simpa using hs)]
  simpa using h2
/-! ### Control -/
theorem vc_true {c : Operand} {x y : Code} (hF : Fr n F a) (hc : ev F c = some (.bool true)) (h : x.wp P Q a w) : (Code.cond c x y).wp P Q a w := wp_cond_true (hF.ev hc) h
theorem vc_false {c : Operand} {x y : Code} (hF : Fr n F a) (hc : ev F c = some (.bool false)) (h : y.wp P Q a w) : (Code.cond c x y).wp P Q a w := wp_cond_false (hF.ev hc) h
/-- a loop with a ghost that goes down -/
theorem vc_loop {G : Type} {c : Code} (I : G → Act → World → Prop) (m : G → Nat) (g0 : G) (h0 : I g0 a w)
    (round : ∀ g a w, I g a w → c.wp P (Exit.then (fun a' w' => ∃ g', m g' < m g ∧ I g' a' w') Q) a w) : (Code.loop c).wp P Q a w := by
  intro b k cs
  have key : ∀ n g a w, m g = n → I g a w →
      ∃ e a' w', Q e a' w' ∧ Arrives P (lone (b.at a (.code c :: .inLoop c :: k)) cs w) b k cs e a' w' := by
    intro n
    induction n using Nat.strongRecOn with
    | _ n ih =>
      intro g a w hn hI
      obtain ⟨e, a₁, w₁, hq, harr⟩ := round g a w hI b (.inLoop c :: k) cs
      cases e with
      | normal =>
        obtain ⟨g', hlt, hI₁⟩ := hq
        obtain ⟨e₂, a₂, w₂, hq₂, harr₂⟩ := ih (m g') (hn ▸ hlt) g' a₁ w₁ rfl hI₁
        exact ⟨e₂, a₂, w₂, hq₂, .of_steps (Steps.trans harr (.one step_inLoop)) harr₂⟩
      | exit id => exact ⟨_, a₁, w₁, hq, .pass (x := .inLoop c) rfl (fun _ _ => .inl (by simp)) harr⟩
      | goto l => exact ⟨_, a₁, w₁, hq, .pass (x := .inLoop c) rfl (fun _ _ => .inl (by simp)) harr⟩
      | ret => exact ⟨_, a₁, w₁, hq, .pass (x := .inLoop c) rfl (fun _ _ => .inl (by simp)) harr⟩
      | panic ch => exact ⟨_, a₁, w₁, hq, .pass (x := .inLoop c) rfl (fun _ _ => .inl (by simp)) harr⟩
      | outgrown => exact ⟨_, a₁, w₁, hq, .pass (x := .inLoop c) rfl (fun _ _ => .inl (by simp)) harr⟩
  obtain ⟨e, a', w', hq, harr⟩ := key _ g0 a w rfl h0
  exact ⟨e, a', w', hq, .of_steps (.one step_loop) harr⟩
/-! ### The function's end -/
section
variable {fn : Func} {R : Ending → World → Prop}
theorem vc_ret0 (hF : Fr n F a) (hr : fn.results = #[]) (h : R (.returned (.tuple #[])) w) : bodyPost P fn R .ret a w := bodyPost_ret (results_none hr _ _ _) hF.defers h
theorem vc_end0 (hF : Fr n F a) (hr : fn.results = #[]) (h : R (.returned (.tuple #[])) w) : bodyPost P fn R .normal a w := bodyPost_end (results_none hr _ _ _) hF.defers h
theorem vc_ret1 {t : Tmp} {v : Value} (hF : Fr n F a) (hr : fn.results = #[.tmp t]) (hl : look F t = some v) (h : R (.returned v) w) : bodyPost P fn R .ret a w :=
  bodyPost_ret (results_tmp hr _ _ _) hF.defers (by rw [hF.at hl]; exact h)
theorem vc_retc {t : Tmp} {ty : TypeId} {L : List Row} {g : Nat} {te : TypeId} {cs : List Value} (hF : Fr n F a) (hr : fn.results = #[.cell t ty]) (hA : At w0 L w) (hl : look F t = some (.pointer (some ⟨g, 0, none⟩)))
    (k : Nat) (hk : L[k]? = some (g, te, cs)) (hrow : isRow P ty cs.length = true) (h : R (.returned (.agg cs.toArray)) w) : bodyPost P fn R .ret a w :=
  bodyPost_ret (results_cell hr hA (hF.at hl) k hk hrow) hF.defers h
end
/-! ### One operation -/
/-- what an operation yields, and the world stays -/
def Yd (P : Program) (n : Nat) (F : List (Nat × Value)) (o : Oper) (w : World) (v : Value) : Prop := ∀ a, Fr n F a → (execOp a.eval o).run P w = .ok (.value v) w
section
variable {ops : Array Oper} {rest : List Oper} {o : Oper} {v : Value} {d : Nat}
theorem vc_y (hF : Fr n F a) (hd : o.dst = some d) (hg : o.guard = none) (hlt : d < n) (v : Value) (y : Yd P n F o w v) (h : ∀ a', Fr n ((d, v) :: F) a' → wpList P ops Q rest a' w) : wpList P ops Q (o :: rest) a w :=
  wpList_plain hg (fun K hK => by
    unfold Oper.wp
    rw [y a hF, Oper.upon_value, hd]
    exact hK _ _ (h _ (hF.put hlt)))
theorem wanted_of (hF : Fr n F a) {j dj : Nat} {b want : Bool} {oj : Oper} (hg : o.guard = some (j, want)) (hj : ops[j]? = some oj) (hdj : oj.dst = some dj) (hl : look F dj = some (.bool b)) : Region.wanted o (yielded ops a.tmps) = (b == want) := by
  have h1 := hF.has dj _ hl
  unfold Region.wanted
  simp only [hg, yielded, hj, hdj, Option.bind_some, h1]
  cases b <;> cases want <;> rfl
theorem vc_yg (hF : Fr n F a) (hd : o.dst = some d) {j dj : Nat} {want : Bool} {oj : Oper} (hg : o.guard = some (j, want)) (hj : ops[j]? = some oj) (hdj : oj.dst = some dj) (hl : look F dj = some (.bool want)) (hlt : d < n) (v : Value) (y : Yd P n F o w v)
    (h : ∀ a', Fr n ((d, v) :: F) a' → wpList P ops Q rest a' w) : wpList P ops Q (o :: rest) a w :=
  wpList_step (fun K hK => by
    rw [if_pos (by rw [wanted_of hF hg hj hdj hl]; simp)]
    unfold Oper.wp
    rw [y a hF, Oper.upon_value, hd]
    exact hK _ _ (h _ (hF.put hlt)))
theorem vc_skip (hF : Fr n F a) (hd : o.dst = some d) {j dj : Nat} {want b : Bool} {oj : Oper} (hg : o.guard = some (j, want)) (hj : ops[j]? = some oj) (hdj : oj.dst = some dj) (hl : look F dj = some (.bool b)) (hb : (b == want) = false) (hlt : d < n)
    (h : ∀ a', Fr n ((d, undef) :: F) a' → wpList P ops Q rest a' w) : wpList P ops Q (o :: rest) a w :=
  wpList_step (fun K hK => by
    rw [if_neg (by rw [wanted_of hF hg hj hdj hl, hb]; simp), hd]
    exact hK _ _ (h _ (hF.put hlt)))
/-- an operation with a rule of its own, of XMem and the like; the guard says yes -/
theorem vc_op (hg : o.guard = none) (h : ∀ K : Act → World → Prop, (∀ a w, wpList P ops Q rest a w → K a w) → o.wp P a w K Q) : wpList P ops Q (o :: rest) a w := wpList_plain hg h
theorem vc_opg (hF : Fr n F a) {j dj : Nat} {want : Bool} {oj : Oper} (hg : o.guard = some (j, want)) (hj : ops[j]? = some oj) (hdj : oj.dst = some dj) (hl : look F dj = some (.bool want))
    (h : ∀ K : Act → World → Prop, (∀ a w, wpList P ops Q rest a w → K a w) → o.wp P a w K Q) : wpList P ops Q (o :: rest) a w :=
  wpList_step (fun K hK => by
    rw [if_pos (by rw [wanted_of hF hg hj hdj hl]; simp)]
    exact h K hK)
theorem vc_nil (h : Q .normal a w) : wpList P ops Q [] a w := h
/-- a call of a function -/
theorem vc_call {K : Act → World → Prop} (hF : Fr n F a) (f : FuncId) {args : Array Operand} {ts : Array TypeId} (ho : o.op = .call { callee := .value (.func f), args := args, argTypes := ts }) {fn : Func} (hfn : P.funcs[f]? = some fn) (hnm : (fn.name == "runtime.NumGoroutine") = false) (hbd : fn.body.isNone = false)
    (vals : List Value) (hv : args.toList.map (ev F) = vals.map some) (h : Calls P f vals.toArray w (fun e w' => ∃ v, e = .returned v ∧ K (a.put o.dst v) w')) : o.wp P a w K Q := by
  have hargs : args.map a.eval = vals.toArray := by
    have h1 : ∀ (xs : List Operand) (vs : List Value), xs.map (Dk.ev F) = vs.map some → xs.map a.eval = vs := by
      intro xs
      induction xs with
      | nil => intro vs h; cases vs <;> simp_all
      | cons x xs ih =>
        intro vs h
        cases vs with
        | nil => simp at h
        | cons u us =>
          simp only [List.map_cons, List.cons.injEq] at h
          simp only [List.map_cons, hF.ev h.1, ih us h.2]
    have h2 := h1 args.toList vals hv
    apply Array.ext'
    rw [Array.toList_map, h2]
  have hrun : (execOp a.eval o).run P w = .ok (.enter f vals.toArray) w := by
    unfold execOp
    simp only [ho, resolve, hargs, Act.eval, Deferred.ofValue, invoke, callFunc, Sem.run_bind, Sem.run_pure, Result.andThen_ok, run_program, hfn, hnm, hbd, Bool.false_eq_true, if_false]
    simp
  unfold Oper.wp
  rw [hrun, Oper.upon_enter]
  refine h.mono ?_
  rintro e w' ⟨v, rfl, hK⟩
  exact hK
end
/-- a function that a call enters -/
def CallsTo (P : Program) (f : FuncId) : Prop := ∃ fn, P.funcs[f]? = some fn ∧ (fn.name == "runtime.NumGoroutine") = false ∧ fn.body.isNone = false
def evs (F : List (Nat × Value)) : List Operand → Option (List Value)
  | [] => some []
  | x :: xs => match ev F x, evs F xs with
    | some v, some vs => some (v :: vs)
    | _, _ => none
theorem evs_spec (xs : List Operand) (vs : List Value) (h : evs F xs = some vs) : xs.map (ev F) = vs.map some := by
  induction xs generalizing vs with
  | nil => simp only [evs, Option.some.injEq] at h; subst h; rfl
  | cons x xs ih =>
    simp only [evs] at h
    cases hx : ev F x with
    | none => simp [hx] at h
    | some v =>
      cases hxs : evs F xs with
      | none => simp [hx, hxs] at h
      | some us =>
        simp only [hx, hxs, Option.some.injEq] at h
        subst h
        simp [hx, ih us hxs]
theorem ws_call {o : Oper} {d : Nat} {K : Act → World → Prop} (hF : Fr n F a) (hd : o.dst = some d) (hlt : d < n) {f : FuncId} (hc : CallsTo P f) {args : Array Operand} {ts : Array TypeId} (ho : o.op = .call { callee := .value (.func f), args := args, argTypes := ts })
    {vals : List Value} (hv : evs F args.toList = some vals) (h : Calls P f vals.toArray w (fun e w' => ∃ v, e = .returned v ∧ ∀ a', Fr n ((d, v) :: F) a' → K a' w')) : o.wp P a w K Q := by
  obtain ⟨fn, h1, h2, h3⟩ := hc
  refine vc_call hF f ho h1 h2 h3 vals (evs_spec _ _ hv) (h.mono ?_)
  rintro e w' ⟨v, he, hK⟩
  refine ⟨v, he, ?_⟩
  rw [hd]
  exact hK _ (hF.put hlt)
section
variable {o : Oper} {d : Nat} {K : Act → World → Prop} {L : List Row} {t : TypeId} {x y : Operand}
theorem ws_store1 (hF : Fr n F a) (hd : o.dst = none) (ho : o.op = .store t x y) (hA : At w0 L w) {g off : Nat} (hx : ev F x = some (.pointer (some ⟨g, off, none⟩)))
    {v : Value} (hy : ev F y = some v) (k : Nat) {te : TypeId} {cs : List Value} (hk : L[k]? = some (g, te, cs)) (hl : off < cs.length) (hv : v.oneCell' = true) (hs : (P.info? t).map (·.size) = some 1)
    (h : ∀ w', At w0 (L.set k (g, te, cs.set off v)) w' → K a w') : o.wp P a w K Q :=
  wp_store1 ho hA (hF.ev hx) (hF.ev hy) k hk hl hv hs (fun w' hw => by rw [hd]; exact h w' hw)
theorem ws_storeRow (hF : Fr n F a) (hd : o.dst = none) (ho : o.op = .store t x y) (hA : At w0 L w) {g off : Nat} (hx : ev F x = some (.pointer (some ⟨g, off, none⟩)))
    {new : List Value} (hy : ev F y = some (.agg new.toArray)) (k : Nat) {te : TypeId} {cs : List Value} (hk : L[k]? = some (g, te, cs)) (hl : off + new.length ≤ cs.length) (hv : ∀ v ∈ new, v.oneCell' = true) (hs : (P.info? t).map (·.size) = some new.length)
    (h : ∀ w', At w0 (L.set k (g, te, splice cs off new)) w' → K a w') : o.wp P a w K Q :=
  wp_storeRow ho hA (hF.ev hx) (hF.ev hy) k hk (by simpa using hl) (by simpa using hv) (by simpa using hs) (fun w' hw => by rw [hd]; exact h w' hw)
theorem ws_storeAll (hF : Fr n F a) (hd : o.dst = none) (ho : o.op = .store t x y) (hA : At w0 L w) {g : Nat} (hx : ev F x = some (.pointer (some ⟨g, 0, none⟩)))
    {new : List Value} (hy : ev F y = some (.agg new.toArray)) (k : Nat) {te : TypeId} {cs : List Value} (hk : L[k]? = some (g, te, cs)) (hl : new.length = cs.length) (hv : ∀ v ∈ new, v.oneCell' = true) (hs : (P.info? t).map (·.size) = some cs.length)
    (h : ∀ w', At w0 (L.set k (g, te, new)) w' → K a w') : o.wp P a w K Q :=
  ws_storeRow hF hd ho hA hx hy k hk (by omega) hv (by rw [hl]; exact hs) (fun w' hw => h w' (by rw [splice_all' cs new hl.symm] at hw; exact hw))
theorem ws_alloc (hF : Fr n F a) (hd : o.dst = some d) (hlt : d < n) (ho : o.op = .alloc t) (hA : At w0 L w) {cs : List Value} (hz : zeroIs P t (.agg cs.toArray))
    (h : ∀ g w' a', w.heap.size ≤ g → Fr n ((d, .pointer (some ⟨g, 0, none⟩)) :: F) a' → At w0 ((g, t, cs) :: L) w' → K a' w') : o.wp P a w K Q :=
  wp_alloc ho hA hz (fun g w' hg hw => by rw [hd]; exact h g w' _ hg (hF.put hlt) hw)
theorem ws_alloc1 (hF : Fr n F a) (hd : o.dst = some d) (hlt : d < n) (ho : o.op = .alloc t) (hA : At w0 L w) {z : Value} (hz : zeroIs P t z) (hz1 : z.cells = #[z])
    (h : ∀ g w' a', w.heap.size ≤ g → Fr n ((d, .pointer (some ⟨g, 0, none⟩)) :: F) a' → At w0 ((g, t, [z]) :: L) w' → K a' w') : o.wp P a w K Q :=
  wp_alloc ho hA hz (fun g w' hg hw => by rw [hd]; rw [hz1] at hw; exact h g w' _ hg (hF.put hlt) hw)
theorem ws_box (hF : Fr n F a) (hd : o.dst = some d) (hlt : d < n) (ho : o.op = .box t x) (hA : At w0 L w) {cs : List Value} (hx : ev F x = some (.agg cs.toArray))
    (h : ∀ g w' a', w.heap.size ≤ g → Fr n ((d, .pointer (some ⟨g, 0, none⟩)) :: F) a' → At w0 ((g, t, cs) :: L) w' → K a' w') : o.wp P a w K Q :=
  wp_box ho hA (hF.ev hx) (fun g w' hg hw => by rw [hd]; exact h g w' _ hg (hF.put hlt) hw)
theorem ws_box1 (hF : Fr n F a) (hd : o.dst = some d) (hlt : d < n) (ho : o.op = .box t x) (hA : At w0 L w) {z : Value} (hx : ev F x = some z) (hz1 : z.cells = #[z])
    (h : ∀ g w' a', w.heap.size ≤ g → Fr n ((d, .pointer (some ⟨g, 0, none⟩)) :: F) a' → At w0 ((g, t, [z]) :: L) w' → K a' w') : o.wp P a w K Q :=
  wp_box ho hA (hF.ev hx) (fun g w' hg hw => by rw [hd]; rw [hz1] at hw; exact h g w' _ hg (hF.put hlt) hw)
theorem ws_own {X : List Row} {e tx : TypeId} {size bytes : Nat} (hF : Fr n F a) (hd : o.dst = some d) (hlt : d < n) (ho : o.op = .call { callee := .builtin .append, args := #[x, y], argTypes := #[t, tx] })
    (R : List Row) (hA : At w0 (R ++ X) w) {v : Value} {m : Nat} {W : List Value} (hO : Own w0 e size X v m W) (hu : P.underlying t = some (.slice e)) (hb : elemInfo P e size bytes) (hx : ev F x = some v)
    {yv : Value} (hy : ev F y = some yv) {j : Nat} {news : List Value} (hs : Src P size tx yv j news w) (hmax : (m + j + (m + j) / 4 + 192) * bytes ≤ 281474976710656) (hbp : 0 < bytes)
    (h : ∀ v' X' w' a', Own w0 e size X' v' (m + j) (W ++ news) → Fr n ((d, v') :: F) a' → At w0 (R ++ X') w' → K a' w') : o.wp P a w K Q :=
  wp_own_append ho R hA hO hu hb (hF.ev hx) (hF.ev hy) hs hmax hbp (fun v' X' w' hO' hA' => by rw [hd]; exact h v' X' w' _ hO' (hF.put hlt) hA')
end
/-! ### Plans of drawn regions -/
section
variable {ops : Array Oper} {S : World → Prop} {hd : Nat} {loud rest : List Nat} {i : Nat} {o : Oper} {d : Nat}
theorem vp_y (hF : Fr n F a) (ho : ops[i]? = some o) (hl : loud.contains i = false) (hdst : o.dst = some d) (hg : o.guard = none) (hlt : d < n) (v : Value) (y : ∀ x, S x → Yd P n F o x v)
    (h : ∀ a', Fr n ((d, v) :: F) a' → wpPlan P ops Q S hd loud rest a' w) : wpPlan P ops Q S hd loud (i :: rest) a w := by
  refine plan_q ho hl (by simp [Region.wanted, hg]) v (fun x hx => y x hx a hF) ?_
  rw [hdst]
  exact h _ (hF.put hlt)
theorem vp_yg (hF : Fr n F a) (ho : ops[i]? = some o) (hl : loud.contains i = false) (hdst : o.dst = some d) {j dj : Nat} {want : Bool} {oj : Oper} (hg : o.guard = some (j, want)) (hj : ops[j]? = some oj) (hdj : oj.dst = some dj) (hlk : look F dj = some (.bool want)) (hlt : d < n) (v : Value) (y : ∀ x, S x → Yd P n F o x v)
    (h : ∀ a', Fr n ((d, v) :: F) a' → wpPlan P ops Q S hd loud rest a' w) : wpPlan P ops Q S hd loud (i :: rest) a w := by
  refine plan_q ho hl (by rw [wanted_of hF hg hj hdj hlk]; simp) v (fun x hx => y x hx a hF) ?_
  rw [hdst]
  exact h _ (hF.put hlt)
theorem vp_skip (hF : Fr n F a) (ho : ops[i]? = some o) (hl : loud.contains i = false) (hdst : o.dst = some d) {j dj : Nat} {want b : Bool} {oj : Oper} (hg : o.guard = some (j, want)) (hj : ops[j]? = some oj) (hdj : oj.dst = some dj) (hlk : look F dj = some (.bool b)) (hb : (b == want) = false) (hlt : d < n)
    (h : ∀ a', Fr n ((d, undef) :: F) a' → wpPlan P ops Q S hd loud rest a' w) : wpPlan P ops Q S hd loud (i :: rest) a w := by
  refine plan_skip ho (by rw [wanted_of hF hg hj hdj hlk, hb]) ?_ hl
  rw [hdst]
  exact h _ (hF.put hlt)
/-- a loud operation that only yields (in the tail) -/
theorem vp_ly (hF : Fr n F a) (ho : ops[i]? = some o) (hl : loud.contains i = true) (hdst : o.dst = some d) (hg : o.guard = none) (hlt : d < n) (v : Value) (y : Yd P n F o w v) (hS : i < hd → S w)
    (h : ∀ a', Fr n ((d, v) :: F) a' → wpPlan P ops Q S hd loud rest a' w) : wpPlan P ops Q S hd loud (i :: rest) a w := by
  refine plan_l ho hl (by simp [Region.wanted, hg]) (fun K hK => ?_)
  unfold Oper.wp
  rw [y a hF, Oper.upon_value, hdst]
  exact hK _ _ hS (h _ (hF.put hlt))
theorem vp_l (ho : ops[i]? = some o) (hl : loud.contains i = true) (hg : o.guard = none)
    (h : ∀ K : Act → World → Prop, (∀ a' w', (i < hd → S w') → wpPlan P ops Q S hd loud rest a' w' → K a' w') → o.wp P a w K Q) : wpPlan P ops Q S hd loud (i :: rest) a w :=
  plan_l ho hl (by simp [Region.wanted, hg]) h
end
/-! ### What they yield -/
section
variable {o : Oper} {x y : Operand} {v : Value} {t t' : TypeId} {k : IntKind} {p q r : Int}
theorem y_move (ho : o.op = .move x) (hx : ev F x = some v) : Yd P n F o w v := fun a hF => by
  unfold execOp; simp only [ho, hF.ev hx, Sem.run_pure]
theorem y_assign (ho : o.op = .assign x) (hx : ev F x = some v) : Yd P n F o w v := fun a hF => by
  unfold execOp; simp only [ho, hF.ev hx, Sem.run_pure]
theorem run_guard_int (b : BinOp) (k k' : IntKind) (p q : Int) (x y : Operand) : (eqGuard b t x y (.int k p) (.int k' q)).run P w = .ok () w := by
  unfold eqGuard; split <;> rfl
theorem y_add (ho : o.op = .binOp .add t x y t') (hx : ev F x = some (.int k p)) (hy : ev F y = some (.int k q)) (hr : k.wrap (p + q) = r) : Yd P n F o w (.int k r) := fun a hF => by
  subst hr; unfold execOp; simp only [ho, hF.ev hx, hF.ev hy, Sem.run_bind, run_guard_int, Result.andThen_ok]; simp [binOp, Op.intArith]
theorem y_sub (ho : o.op = .binOp .sub t x y t') (hx : ev F x = some (.int k p)) (hy : ev F y = some (.int k q)) (hr : k.wrap (p - q) = r) : Yd P n F o w (.int k r) := fun a hF => by
  subst hr; unfold execOp; simp only [ho, hF.ev hx, hF.ev hy, Sem.run_bind, run_guard_int, Result.andThen_ok]; simp [binOp, Op.intArith]
theorem y_mul (ho : o.op = .binOp .mul t x y t') (hx : ev F x = some (.int k p)) (hy : ev F y = some (.int k q)) (hr : k.wrap (p * q) = r) : Yd P n F o w (.int k r) := fun a hF => by
  subst hr; unfold execOp; simp only [ho, hF.ev hx, hF.ev hy, Sem.run_bind, run_guard_int, Result.andThen_ok]; simp [binOp, Op.intArith]
theorem y_quo (ho : o.op = .binOp .quo t x y t') (hx : ev F x = some (.int k p)) (hy : ev F y = some (.int k q)) (h0 : q ≠ 0) (hr : k.wrap (p.tdiv q) = r) : Yd P n F o w (.int k r) := fun a hF => by
  subst hr; unfold execOp; simp only [ho, hF.ev hx, hF.ev hy, Sem.run_bind, run_guard_int, Result.andThen_ok]; simp [binOp, Op.intDiv, h0]
theorem y_rem (ho : o.op = .binOp .rem t x y t') (hx : ev F x = some (.int k p)) (hy : ev F y = some (.int k q)) (h0 : q ≠ 0) (hr : p.tmod q = r) : Yd P n F o w (.int k r) := fun a hF => by
  subst hr; unfold execOp; simp only [ho, hF.ev hx, hF.ev hy, Sem.run_bind, run_guard_int, Result.andThen_ok]; simp [binOp, Op.intDiv, h0]
theorem y_and (ho : o.op = .binOp .and t x y t') (hx : ev F x = some (.int k p)) (hy : ev F y = some (.int k q)) (hr : bits .and k p q = r) : Yd P n F o w (.int k r) := fun a hF => by
  subst hr; unfold execOp; simp only [ho, hF.ev hx, hF.ev hy, Sem.run_bind, run_guard_int, Result.andThen_ok, binOp_and, intBits_and, Sem.run_pure]
theorem y_xor (ho : o.op = .binOp .xor t x y t') (hx : ev F x = some (.int k p)) (hy : ev F y = some (.int k q)) (hr : bits .xor k p q = r) : Yd P n F o w (.int k r) := fun a hF => by
  subst hr; unfold execOp; simp only [ho, hF.ev hx, hF.ev hy, Sem.run_bind, run_guard_int, Result.andThen_ok, binOp_xor, intBits_xor, Sem.run_pure]
theorem y_shr {k' : IntKind} (ho : o.op = .binOp .shr t x y t') (hx : ev F x = some (.int k p)) (hy : ev F y = some (.int k' q)) (h0 : 0 ≤ q) (hr : p.fdiv (2 ^ min q.toNat k.bits) = r) : Yd P n F o w (.int k r) := fun a hF => by
  have h1 : ¬ q < 0 := by omega
  subst hr; unfold execOp; simp only [ho, hF.ev hx, hF.ev hy, Sem.run_bind, run_guard_int, Result.andThen_ok]; simp [binOp, Op.shift, h1]
/-- a comparison's answer -/
def cmpB (b : BinOp) (p q : Int) : Bool := match b with
  | .eql => p == q
  | .neq => p != q
  | .lss => decide (p < q)
  | .leq => decide (p ≤ q)
  | .gtr => decide (p > q)
  | .geq => decide (p ≥ q)
  | _ => false
def isCmp : BinOp → Bool
  | .eql | .neq | .lss | .leq | .gtr | .geq => true
  | _ => false
theorem y_cmp {b : BinOp} {c : Bool} (ho : o.op = .binOp b t x y t') (hb : isCmp b = true) (hx : ev F x = some (.int k p)) (hy : ev F y = some (.int k q)) (hr : cmpB b p q = c) : Yd P n F o w (.bool c) := fun a hF => by
  subst hr; unfold execOp; simp only [ho, hF.ev hx, hF.ev hy, Sem.run_bind, run_guard_int, Result.andThen_ok]
  cases b <;> first | (simp [isCmp] at hb; done) | simp [binOp, Op.intCmp, cmpB]
theorem lss_t (h : p < q) : cmpB .lss p q = true := decide_eq_true h
theorem lss_f (h : q ≤ p) : cmpB .lss p q = false := decide_eq_false (by omega)
theorem leq_t (h : p ≤ q) : cmpB .leq p q = true := decide_eq_true h
theorem leq_f (h : q < p) : cmpB .leq p q = false := decide_eq_false (by omega)
theorem gtr_t (h : q < p) : cmpB .gtr p q = true := decide_eq_true h
theorem gtr_f (h : p ≤ q) : cmpB .gtr p q = false := decide_eq_false (by omega)
theorem geq_t (h : q ≤ p) : cmpB .geq p q = true := decide_eq_true h
theorem geq_f (h : p < q) : cmpB .geq p q = false := decide_eq_false (by omega)
theorem eql_t (h : p = q) : cmpB .eql p q = true := beq_iff_eq.2 h
theorem eql_f (h : p ≠ q) : cmpB .eql p q = false := beq_eq_false_iff_ne.2 h
theorem neq_t (h : p ≠ q) : cmpB .neq p q = true := bne_iff_ne.2 h
theorem neq_f (h : p = q) : cmpB .neq p q = false := by simp [cmpB, h]
theorem y_not {c : Bool} (ho : o.op = .unOp .not t x) (hx : ev F x = some (.bool c)) {e : Bool} (he : (!c) = e) : Yd P n F o w (.bool e) := fun a hF => by
  subst he; unfold execOp; simp only [ho, hF.ev hx, Sem.run_bind]; simp [Op.unary]
theorem y_conv {k' : IntKind} {s d : TypeId} {ds : TypeDesc} (ho : o.op = .convert s d x) (hs : P.underlying s = some ds) (hd : P.underlying d = some (.int k)) (hx : ev F x = some (.int k' p)) (hr : k.wrap p = r) : Yd P n F o w (.int k r) := fun a hF => by
  subst hr; unfold execOp; simp only [ho, hF.ev hx, Sem.run_bind, convert, run_underlying hs w, run_underlying hd w, Result.andThen_ok]
  cases ds <;> simp [Conv.intToInt]
theorem y_pick {c : Bool} {x1 x2 : Operand} (ho : o.op = .pick x x1 x2) (hx : ev F x = some (.bool c)) (hv : ev F (if c then x1 else x2) = some v) : Yd P n F o w v := fun a hF => by
  have h1 := hF.ev hv
  unfold execOp; simp only [ho, hF.ev hx, Sem.run_bind]
  cases c <;> simp_all [asBool]
theorem y_lenSl {ts e : TypeId} {A : Option Addr} {m c : Nat} (ho : o.op = .call { callee := .builtin .len, args := #[x], argTypes := #[ts] }) (hu : P.underlying ts = some (.slice e)) (hx : ev F x = some (.slice A m c)) {z : Int} (hz : (m : Int) = z) : Yd P n F o w (.int .i64 z) := fun a hF => by
  subst hz; unfold execOp
  simp only [ho, hF.ev hx, resolve, invoke, builtin, Builtin.len_, List.map_toArray, List.map_cons, List.map_nil, Sem.run_bind, Sem.run_pure, Result.andThen_ok, run_underlying hu w, List.getElem?_toArray, List.getElem?_cons_zero, goInt]
theorem y_ixArr {e : TypeId} {m size b off : Nat} {sp : Option Nat} {kd : IntKind} (ho : o.op = .indexAddr t x y) (hu : P.underlying t = some (.array m e)) (hs : (P.info? e).map (·.size) = some size) (hx : ev F x = some (.pointer (some ⟨b, off, none⟩))) (hy : ev F y = some (.int kd p)) (j : Nat) (hp : p = j) (hj : j < m)
    {ad : Addr} (had : (⟨b, off + j * size, none⟩ : Addr) = ad) (_ : sp = none) : Yd P n F o w (.pointer (some ad)) := fun a hF => by
  subst hp had
  have h1 : (0 : Int) ≤ (j : Int) ∧ (j : Int) < (m : Int) := by omega
  unfold execOp
  simp only [ho, hF.ev hx, hF.ev hy, Instr.indexAt, Instr.sureAddr, asIntOf, Sem.run_bind, Sem.run_pure, Result.andThen_ok, run_underlying hu w, h1, and_self, if_true, run_sizeOf hs, Int.toNat_natCast, Addr.add_mid]
theorem y_ixSl {e : TypeId} {m c size b off : Nat} {kd : IntKind} (ho : o.op = .indexAddr t x y) (hu : P.underlying t = some (.slice e)) (hs : (P.info? e).map (·.size) = some size) (hx : ev F x = some (.slice (some ⟨b, off, none⟩) m c)) (hy : ev F y = some (.int kd p)) (j : Nat) (hp : p = j) (hj : j < m)
    {ad : Addr} (had : (⟨b, off + j * size, none⟩ : Addr) = ad) : Yd P n F o w (.pointer (some ad)) := fun a hF => by
  subst hp had
  have h1 : (0 : Int) ≤ (j : Int) ∧ (j : Int) < (m : Int) := by omega
  unfold execOp
  simp only [ho, hF.ev hx, hF.ev hy, Instr.indexAt, asIntOf, Sem.run_bind, Sem.run_pure, Result.andThen_ok, run_underlying hu w, h1, and_self, if_true, run_sizeOf hs, Int.toNat_natCast, Addr.add_mid]
theorem y_field {fs : Array Field} {fd : Field} {i b off sz : Nat} (ho : o.op = .fieldAddr t x i) (hu : P.underlying t = some (.struct fs)) (hi : fs[i]? = some fd) (hs : (P.info? fd.type).map (·.size) = some sz) (h0 : sz ≠ 0) (hx : ev F x = some (.pointer (some ⟨b, off, none⟩)))
    {ad : Addr} (had : (⟨b, off + fd.offset, none⟩ : Addr) = ad) : Yd P n F o w (.pointer (some ad)) := fun a hF => by
  subst had
  unfold execOp
  simp only [ho, hF.ev hx, Instr.fieldAt, Instr.sureAddr, fieldPlace, Sem.run_bind, Sem.run_pure, Result.andThen_ok, run_underlying hu w, hi, run_sizeOf hs, h0, if_false, Addr.add_mid]
theorem y_nilCheck {ad : Addr} (ho : o.op = .nilCheck x) (hx : ev F x = some (.pointer (some ad))) : Yd P n F o w (.pointer (some ad)) := fun a hF => by
  unfold execOp; simp only [ho, hF.ev hx, Sem.run_pure]
theorem y_load1 {ad : Addr} (ho : o.op = .load t x) (hx : ev F x = some (.pointer (some ad))) (hv : w.cell? ad = some v) (hn : notRow P t = true) : Yd P n F o w v := fun _ hF => run_load_cell ho (hF.ev hx) hv hn
theorem y_loadAt {L : List Row} {g off : Nat} {te : TypeId} {cs : List Value} (ho : o.op = .load t x) (hA : At w0 L w) (hx : ev F x = some (.pointer (some ⟨g, off, none⟩))) (i : Nat) (hk : L[i]? = some (g, te, cs)) (hv : cs[off]? = some v) (hn : notRow P t = true) : Yd P n F o w v :=
  fun _ hF => run_load1_at ho hA (hF.ev hx) i hk hv hn
theorem y_loadRow {L : List Row} {g off m : Nat} {te : TypeId} {cs new : List Value} (ho : o.op = .load t x) (hA : At w0 L w) (hx : ev F x = some (.pointer (some ⟨g, off, none⟩))) (i : Nat) (hk : L[i]? = some (g, te, cs)) (hr : isRow P t m = true) (hn : off + m ≤ cs.length) (he : (cs.drop off).take m = new) : Yd P n F o w (.agg new.toArray) :=
  fun _ hF => run_loadRow_at ho hA (hF.ev hx) i hk hr hn he
theorem ad1 (b j : Nat) : (⟨b, 0 + j * 1, none⟩ : Addr) = ⟨b, j, none⟩ := by simp
theorem ad2 (b o j : Nat) : (⟨b, o + j * 1, none⟩ : Addr) = ⟨b, o + j, none⟩ := by simp
end
end
end Go.Dk

/- Further rules of the walk over named slots: slices, copies, literals, arrays of bytes. Plain lemmas over the model; no program. -/
namespace Go.Dk
open Go Go.RowKit
section
variable {P : Program} {Q : Exit → Act → World → Prop} {w w0 : World} {n : Nat} {F : List (Nat × Value)} {a : Act}
variable {o : Oper} {d : Nat} {K : Act → World → Prop} {L : List Row} {t : TypeId} {x y : Operand} {v : Value}
/-- a bound of a slice expression -/
inductive BoundF (F : List (Nat × Value)) : Option Operand → Nat → Nat → Prop
  | none (k : Nat) : BoundF F none k k
  | some {x : Operand} {kd : IntKind} {p : Int} {k dflt : Nat} (hx : ev F x = some (.int kd p)) (hp : p = k) : BoundF F (some x) dflt k
theorem BoundF.bound {lo : Option Operand} {dflt k : Nat} (h : BoundF F lo dflt k) (hF : Fr n F a) : boundIs (lo.map a.eval) dflt k := by
  cases h with
  | none => exact boundIs_none _
  | some hx hp =>
    subst hp
    rw [Option.map_some, hF.ev hx]
    exact boundIs_some _ _ _
theorem y_slice {e : TypeId} {lo hi : Option Operand} {size : Nat} {A : Option Addr} {len cap l h : Nat} (ho : o.op = .slice t x lo hi none) (hu : P.underlying t = some (.slice e)) (hs : (P.info? e).map (·.size) = some size)
    (hx : ev F x = some (.slice A len cap)) (hlo : BoundF F lo 0 l) (hhi : BoundF F hi len h) (h1 : l ≤ h) (h2 : h ≤ cap) (hv : Value.slice (sub A l cap size) (h - l) (cap - l) = v) : Yd P n F o w v := fun _ hF =>
  run_sliceSl ho hu hs (hF.ev hx) l h (hlo.bound hF) (hhi.bound hF) h1 h2 hv
theorem y_sliceArr {e : TypeId} {lo hi : Option Operand} {m size : Nat} {ad : Addr} {l h : Nat} (ho : o.op = .slice t x lo hi none) (hu : P.underlying t = some (.array m e)) (hs : (P.info? e).map (·.size) = some size)
    (hx : ev F x = some (.pointer (some ad))) (hlo : BoundF F lo 0 l) (hhi : BoundF F hi m h) (h1 : l ≤ h) (h2 : h ≤ m) (hv : Value.slice (sub (some ad) l m size) (h - l) (m - l) = v) : Yd P n F o w v := fun _ hF =>
  run_sliceArr ho hu hs (hF.ev hx) l h (hlo.bound hF) (hhi.bound hF) h1 h2 hv
/-- s[:h] -/
theorem slice_to {A : Option Addr} {h cap size : Nat} : Value.slice (sub A 0 cap size) (h - 0) (cap - 0) = .slice A h cap := by rw [sub_zero]; rfl
theorem y_eqB {t' e : TypeId} {m : Nat} {X Y : List UInt8} (ho : o.op = .binOp .eql t x y t') (hu : P.underlying t = some (.array m e)) (he : P.underlying e = some (.int .u8)) (hs : (P.info? e).map (·.size) = some 1) (hm : P.eqGuardType P.depth t = false)
    (hx : ev F x = some (.agg (dc X).toArray)) (hy : ev F y = some (.agg (dc Y).toArray)) (hX : X.length = m) (hY : Y.length = m) {c : Bool} (hc : decide (X = Y) = c) : Yd P n F o w (.bool c) := fun _ hF => by
  subst hc; exact run_op_eql_bytes ho e m X Y (hF.ev hx) (hF.ev hy) hu he hs hX hY hm
theorem y_neB {t' e : TypeId} {m : Nat} {X Y : List UInt8} (ho : o.op = .binOp .neq t x y t') (hu : P.underlying t = some (.array m e)) (he : P.underlying e = some (.int .u8)) (hs : (P.info? e).map (·.size) = some 1) (hm : P.eqGuardType P.depth t = false)
    (hx : ev F x = some (.agg (dc X).toArray)) (hy : ev F y = some (.agg (dc Y).toArray)) (hX : X.length = m) (hY : Y.length = m) {c : Bool} (hc : (!decide (X = Y)) = c) : Yd P n F o w (.bool c) := fun _ hF => by
  subst hc; exact run_op_neq_bytes ho e m X Y (hF.ev hx) (hF.ev hy) hu he hs hX hY hm
theorem y_build0 (ho : o.op = .build t #[]) (hr : ∀ w, (Instr.build t #[]).run P w = .ok v w) : Yd P n F o w v := fun a _ => by
  unfold execOp
  simp only [ho, Sem.run_bind]
  have h1 : (Instr.build t (Array.map (fun x : Nat × Operand => (x.1, a.eval x.2)) #[])).run P w = .ok v w := by simpa using hr w
  simp only [h1, Result.andThen_ok, Sem.run_pure]
theorem y_eqNilT {t' : TypeId} (ho : o.op = .binOp .eql t x y t') (hu : P.underlying t = some (.pointer (P.pointee t))) (hx : ev F x = some (.pointer none)) (hy : ev F y = some (.pointer none)) : Yd P n F o w (.bool true) := fun a hF => by
  unfold execOp
  simp only [ho, hF.ev hx, hF.ev hy, Sem.run_bind]
  have h1 : (eqGuard .eql t x y (.pointer none) (.pointer none)).run P w = .ok () w := rfl
  rw [h1]
  simp only [Result.andThen_ok]
  rw [run_eql_pointer_nil w t none hu]
  rfl
theorem y_notI {k : IntKind} {p r : Int} (ho : o.op = .unOp .xor t x) (hx : ev F x = some (.int k p)) (hr : bits .xor k (if k.signed then -1 else k.max) p = r) : Yd P n F o w (.int k r) := fun a hF => by
  subst hr
  unfold execOp
  simp only [ho, hF.ev hx, Sem.run_bind, Op.unary, intBits_xor, Sem.run_pure, Result.andThen_ok]
theorem y_extract {vs : Array Value} {i : Nat} (ho : o.op = .extract x i) (hx : ev F x = some (.tuple vs)) (hv : vs[i]? = some v) : Yd P n F o w v := fun a hF => by
  unfold execOp
  simp only [ho, hF.ev hx, Instr.extract, hv, Sem.run_bind, Sem.run_pure, Result.andThen_ok]
/-- a pointer held against nil -/
theorem y_eqNil {t' : TypeId} {ad : Addr} (ho : o.op = .binOp .eql t x y t') (hu : P.underlying t = some (.pointer (P.pointee t))) (hx : ev F x = some (.pointer (some ad))) (hy : ev F y = some (.pointer none)) : Yd P n F o w (.bool false) := fun a hF => by
  unfold execOp
  simp only [ho, hF.ev hx, hF.ev hy, Sem.run_bind]
  have h1 : (eqGuard .eql t x y (.pointer (some ad)) (.pointer none)).run P w = .ok () w := rfl
  rw [h1]
  simp only [Result.andThen_ok]
  rw [run_eql_pointer_nil w t (some ad) hu]
  rfl
theorem ws_copy {tx ty e : TypeId} (hF : Fr n F a) (hd : o.dst = some d) (hlt : d < n) (ho : o.op = .call { callee := .builtin .copy, args := #[x, y], argTypes := #[tx, ty] }) (hA : At w0 L w)
    (hu : P.underlying tx = some (.slice e)) (hs : (P.info? e).map (·.size) = some 1) {D A : Option Addr} {dLen dc' sLen sc : Nat} (hx : ev F x = some (.slice D dLen dc')) (hy : ev F y = some (.slice A sLen sc))
    (l : List UInt8) (hl : l.length = Nat.min sLen dLen) (hr : Bts w A l) {g : Nat} (off : Nat) (k : Nat) {te : TypeId} {cs : List Value} (hk : L[k]? = some (g, te, cs)) (hD : 0 < l.length → D = some ⟨g, off, none⟩) (hfit : off + l.length ≤ cs.length)
    (h : ∀ w' a', Fr n ((d, .int .i64 (l.length : Nat)) :: F) a' → At w0 (L.set k (g, te, splice cs off (dc l))) w' → K a' w') : o.wp P a w K Q :=
  wp_copy ho hA hu hs (hF.ev hx) (hF.ev hy) hl hr k hk hD hfit (fun w' hw => by rw [hd]; exact h w' _ (hF.put hlt) hw)
theorem vc_trueB {c : Operand} {x y : Code} {b : Bool} (hF : Fr n F a) (hc : ev F c = some (.bool b)) (hb : b = true) (h : x.wp P Q a w) : (Code.cond c x y).wp P Q a w := vc_true hF (by rw [hc, hb]) h
theorem vc_falseB {c : Operand} {x y : Code} {b : Bool} (hF : Fr n F a) (hc : ev F c = some (.bool b)) (hb : b = false) (h : y.wp P Q a w) : (Code.cond c x y).wp P Q a w := vc_false hF (by rw [hc, hb]) h
theorem all_new {w : World} {L M : List Row} (h1 : ∀ r ∈ L, w.heap.size ≤ (r : Row).1) (h2 : ∀ r ∈ M, w.heap.size ≤ (r : Row).1) : ∀ r ∈ L ++ M, w.heap.size ≤ (r : Row).1 := fun r hr => by
  rcases List.mem_append.1 hr with h | h
  · exact h1 r h
  · exact h2 r h
theorem one_new {w : World} {g : Nat} {t : TypeId} {cs : List Value} (h : w.heap.size ≤ g) : ∀ r ∈ [((g, t, cs) : Row)], w.heap.size ≤ r.1 := by
  intro r hr; simp only [List.mem_cons, List.not_mem_nil, or_false] at hr; subst hr; exact h
theorem cons_new {w : World} {g : Nat} {t : TypeId} {cs : List Value} {L : List Row} (h : w.heap.size ≤ g) (h2 : ∀ r ∈ L, w.heap.size ≤ (r : Row).1) : ∀ r ∈ (g, t, cs) :: L, w.heap.size ≤ (r : Row).1 := by
  intro r hr
  rcases List.mem_cons.1 hr with e | hr
  · subst e; exact h
  · exact h2 r hr
theorem own_parts {e : TypeId} {X : List Row} {v : Value} {n : Nat} {l : List UInt8} (h : Own w0 e 1 X v n (dc l)) : n = l.length ∧ ∃ A c, v = .slice A l.length c ∧ l.length ≤ c ∧ ∀ (R : List Row) (x : World), At w0 (R ++ X) x → Bts x A l := by
  have hn : n = l.length := by have := h.1; rw [dc_length] at this; omega
  refine ⟨hn, ?_⟩
  obtain ⟨A, c, h1, h2⟩ := h.slice
  refine ⟨A, c, by rw [h1, hn], by omega, fun R x hx => ?_⟩
  obtain ⟨A2, c2, h3, _, _, h6, _⟩ := h.bts hx
  rw [h1] at h3
  cases h3
  exact h6
/-- a slice of one byte -/
theorem own_one {e : TypeId} {X : List Row} {v : Value} {n s : Nat} {W : List Value} (h : Own w0 e s X v n W) : v.oneCell' = true := by
  obtain ⟨A, c, rfl, _⟩ := h.slice
  rfl
theorem ws_byte1 {e : TypeId} (hF : Fr n F a) (hd : o.dst = some d) (hlt : d < n) (ho : o.op = .buildSlice t 1 #[(0, x)]) (hA : At w0 L w) (b : UInt8) (hx : ev F x = some (.int .u8 (b.toNat : Int)))
    (hr : ∀ (d : Int) (w : World), (Instr.buildSlice t 1 #[(0, .int .u8 d)]).run P w = .ok (.slice (some ⟨w.heap.size, 0, none⟩) 1 1) (w.alloc (.cells #[.int .u8 d] e)))
    (h : ∀ g w' a', w.heap.size ≤ g → Fr n ((d, .slice (some ⟨g, 0, none⟩) 1 1) :: F) a' → At w0 ((g, e, dc [b]) :: L) w' → K a' w') : o.wp P a w K Q :=
  wp_bs1 ho hA (hF.ev hx) (hr _ w) (fun g w' hg hw => by rw [hd]; exact h g w' _ hg (hF.put hlt) hw)
end
end Go.Dk

/- The walk of digest.Cut. -/
namespace Go.Proofs.YtpomngkcfbnjoaaDoor
open Go.RowKit Go.Dk
theorem zero5 : zeroIs Tryd.prog 5 (.int .u8 0) := by unfold zeroIs; kernel_rfl
def kept (m : Int) : Nat := (min (max m 1) 32).toNat
def cutL (D : List UInt8) (m : Int) : List UInt8 := D.take (kept m) ++ List.replicate (32 - kept m) 0
theorem kept_le (m : Int) : kept m ≤ 32 := by unfold kept; omega
theorem cutL_length (D : List UInt8) (m : Int) (h : D.length = 32) : (cutL D m).length = 32 := by
  have := kept_le m
  simp [cutL, h]; omega

theorem cut_cells (D : List UInt8) (h : D.length = 32) (k : Nat) (hk : k ≤ 32) : splice (dc D) k (List.replicate (32 - k) (.int .u8 0)) = dc (D.take k ++ List.replicate (32 - k) 0) := by
  have : (dc D).drop (k + (32 - k)) = [] := by rw [show k + (32 - k) = 32 by omega]; simp [dc, h]
  unfold splice
  rw [List.length_replicate, this]
  simp [dc]
theorem splice_all2 (X Y : List Value) (h : X.length = Y.length) : splice X 0 Y = Y := by
  have : X.drop (0 + Y.length) = [] := by simp [← h]
  unfold splice
  rw [this]
  simp

theorem dc_take (D : List UInt8) (X : List Value) (h : X = dc D) (hD : D.length = 32) : ((X.drop 0).take 32).toArray = (dc D).toArray := by
  subst h
  rw [List.drop_zero, List.take_of_length_le (by simp [dc, hD])]

set_option maxRecDepth 100000 in
set_option maxHeartbeats 1000000 in
theorem cut_any (D : List UInt8) (m : Int) (w : World) (hD : D.length = 32) :
    Calls Tryd.prog 28 #[.agg (dc D).toArray, .int .i64 m] w fun e w' => e = .returned (.agg (dc (cutL D m)).toArray) ∧ At w [] w' := by
  have hA0 := At.refl w
  have HD := Lib.hid hD
  have HL := Lib.hid (cutL_length D m hD)
  have HC := Lib.hid (cut_cells D hD (kept m) (kept_le m))
  have hkl := kept_le m
  clear hD
  have Hk : Hid (kept m = (min (max m 1) 32).toNat) := rfl
  have cases3 : m < 1 ∨ 32 < m ∨ (1 ≤ m ∧ m ≤ 32) := by omega
  rcases cases3 with hm | hm | ⟨hm, hm'⟩
  all_goals
    go_enter Tryd.func28, Tryd.ntmps28
    go_wp2_with (first
      | (with_reducible refine at_box rfl ?_
         refine wpList_plain rfl (fun _ hK => wp_box (v := .agg (dc D).toArray) rfl hA0 rfl (fun n1 w1 hn1 hA1 => hK _ _ ?_)); clear hK
         replace hA1 : At w [(n1, 23, dc D)] w1 := hA1)
      | (with_reducible refine at_alloc rfl ?_
         refine wpList_plain rfl (fun _ hK => wp_alloc rfl hA1 mu_zero36 (fun n2 w2 hn2 hA2 => hK _ _ ?_)); clear hK
         replace hA2 : At w [(n2, 23, dc (List.replicate 32 0)), (n1, 23, dc D)] w2 := hA2)
      | (with_reducible refine at_slice rfl ?_
         refine wpList_plain rfl (fun _ hK => wp_sliceArr (l := kept m) (h := 32) rfl Tryd.underlying23 bk_size5 rfl (boundIs_int _ _ _ _ (by have := Hk.out; omega)) (boundIs_none 32) hkl (Nat.le_refl _) (hK _ _ ?_)); clear hK)
      | (with_reducible refine at_bin (b := .clear) rfl ?_
         refine wpList_plain rfl (fun _ hK => wp_clear (off := kept m) rfl hA2 rfl (fun h => by rw [sub_lt (by omega), Nat.zero_add]) Tryd.underlying59 zero5 rfl rfl 1 rfl (by rw [dc_length, HD.out]; omega) (fun w3 hA3 => hK _ _ ?_)); clear hK
         replace hA3 : At w [(n2, 23, dc (List.replicate 32 0)), (n1, 23, dc (cutL D m))] w3 := by rw [show dc (cutL D m) = _ from HC.out.symm]; exact hA3)
      | (with_reducible refine at_load rfl ?_
         refine wpList_plain rfl (fun _ hK => wp_loadRow (off := 0) rfl hA3 rfl 1 rfl mu_row36 (by rw [dc_length, HL.out]; omega) (hK _ _ ?_)); clear hK
         rw [dc_take (cutL D m) _ rfl HL.out])
      | (with_reducible refine at_store rfl ?_
         refine wpList_plain rfl (fun _ hK => wp_storeRow (off := 0) (new := (dc (cutL D m)).toArray) rfl hA3 rfl rfl 0 rfl (by rw [List.size_toArray, dc_length, dc_length, HL.out]; decide) (fun v hv => dc_one _ v (by simpa using hv)) (by rw [mu_size36, List.size_toArray, dc_length, HL.out]) (fun w4 hA4 => hK _ _ ?_)); clear hK
         replace hA4 : At w [(n2, 23, dc (cutL D m)), (n1, 23, dc (cutL D m))] w4 := by
           have e : splice (dc (List.replicate 32 0)) 0 (dc (cutL D m)) = dc (cutL D m) := splice_all2 _ _ (by rw [dc_length, dc_length, HL.out]; rfl)
           have h4 : At w [(n2, 23, splice (dc (List.replicate 32 0)) 0 (dc (cutL D m))), (n1, 23, dc (cutL D m))] w4 := hA4
           rw [e] at h4; exact h4))
    refine bodyPost_ret (results_cell (by exact Tryd.results28) hA4 rfl 0 rfl (by rw [dc_length, HL.out]; exact mu_row36)) rfl ⟨rfl, hA4.clear ?_⟩
    have h1 := hA1.size
    intro r hr
    simp only [List.mem_cons, List.not_mem_nil, or_false] at hr
    rcases hr with rfl | rfl <;> simp only <;> omega

end Go.Proofs.YtpomngkcfbnjoaaDoor

/- The walks of Of, Leaf, Branch, Empty. -/
namespace Go.Proofs.YtpomngkcfbnjoaaDoor
open Go.RowKit Go.Dk

abbrev Part := Option Addr × Nat × List UInt8
def flat (ps : List Part) : List UInt8 := ps.flatMap (·.2.2)
theorem flat_take {ps : List Part} {i : Nat} {A : Option Addr} {c : Nat} {l : List UInt8} (h : ps[i]? = some (A, c, l)) : flat (ps.take (i + 1)) = flat (ps.take i) ++ l := by
  unfold flat
  rw [List.take_add_one, h]
  simp
theorem flat_le {ps : List Part} {i : Nat} {A : Option Addr} {c : Nat} {l : List UInt8} (h : ps[i]? = some (A, c, l)) : (flat (ps.take i)).length + l.length ≤ (flat ps).length := by
  have h1 := congrArg List.length (flat_take h)
  have h2 : flat ps = flat (ps.take (i + 1)) ++ flat (ps.drop (i + 1)) := by
    unfold flat; rw [← List.flatMap_append, List.take_append_drop]
  rw [h2, List.length_append, h1, List.length_append]
  omega
theorem build_byte (d : Int) (w : World) : (Instr.buildSlice 59 1 #[(0, .int .u8 d)]).run Tryd.prog w = .ok (.slice (some ⟨w.heap.size, 0, none⟩) 1 1) (w.alloc (.cells #[.int .u8 d] 5)) := by kernel_rfl
theorem off_some {b o g : Nat} (h : b ≠ g) : Off (some ⟨b, o, none⟩) g := fun ad he => by cases he; exact h
theorem no24 : notRow Tryd.prog 59 = true := by kernel_rfl

end Go.Proofs.YtpomngkcfbnjoaaDoor

/- The walks of Leaf, Branch, Empty. -/
namespace Go.Proofs.YtpomngkcfbnjoaaDoor
open Go.RowKit Go.Dk

def branchL (width : Int) (X Y : List UInt8) : List UInt8 := cutL (sha (4 :: (X ++ Y))) width
def emptyL (width : Int) : Nat → List UInt8
  | 0 => cutL (sha [5]) width
  | k + 1 => branchL width (emptyL width k) (emptyL width k)
theorem emptyL_length (width : Int) (k : Nat) : (emptyL width k).length = 32 := by cases k <;> exact cutL_length _ _ (sha_length _)

end Go.Proofs.YtpomngkcfbnjoaaDoor
