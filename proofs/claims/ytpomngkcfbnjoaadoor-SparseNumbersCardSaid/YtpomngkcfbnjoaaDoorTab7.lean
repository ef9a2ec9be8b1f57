/- Clash, the reference's. -/
import Derived.Test.YtpomngkcfbnjoaaDoorTabR
namespace Go.Proofs.YtpomngkcfbnjoaaDoor
open Go.RowKit Go.Dk

theorem t7_elem : elemInfo Tryd.prog 23 32 32 := elemInfo_of (z := .agg (dc (List.replicate 32 0)).toArray) (by kernel_rfl) (by kernel_rfl)
theorem t7_size : (Tryd.prog.info? 23).map (·.size) = some 32 := size36
theorem t7_build0 (f : Nat → UInt8) (w : World) : (Instr.buildSlice 26 1 #[(0, .agg (dc ((List.range 32).map f)).toArray)]).run Tryd.prog w = .ok (.slice (some ⟨w.heap.size, 0, none⟩) 1 1) (w.alloc (.cells (dc ((List.range 32).map f)).toArray 23)) := by kernel_rfl
theorem t7_build {D : List UInt8} (h : D.length = 32) (w : World) : (Instr.buildSlice 26 1 #[(0, .agg (dc D).toArray)]).run Tryd.prog w = .ok (.slice (some ⟨w.heap.size, 0, none⟩) 1 1) (w.alloc (.cells (dc D).toArray 23)) := by
  have h1 := t7_build0 (bAt D) w
  rw [list32 h] at h1
  exact h1
theorem ws_bsd {n : Nat} {F : List (Nat × Value)} {a : Act} {o : Oper} {w0 w : World} {L : List Row} {t e : TypeId} {x : Operand} {d : Nat} {D : List UInt8} {K : Act → World → Prop} {Q : Exit → Act → World → Prop} (hF : Fr n F a) (hd : o.dst = some d) (hlt : d < n) (ho : o.op = .buildSlice t 1 #[(0, x)]) (hA : At w0 L w) (hx : ev F x = some (.agg (dc D).toArray))
    (hr : ∀ w : World, (Instr.buildSlice t 1 #[(0, .agg (dc D).toArray)]).run Tryd.prog w = .ok (.slice (some ⟨w.heap.size, 0, none⟩) 1 1) (w.alloc (.cells (dc D).toArray e)))
    (h : ∀ g w' a', w.heap.size ≤ g → Fr n ((d, .slice (some ⟨g, 0, none⟩) 1 1) :: F) a' → At w0 ((g, e, dc D) :: L) w' → K a' w') : o.wp Tryd.prog a w K Q :=
  wp_bs ho hA (by simpa [hF.ev hx] using hr w) (fun g w' hg hw => by rw [hd]; exact h g w' _ hg (hF.put hlt) (by simpa using hw))
/-- digests, one behind the other -/
def digs (f : Nat → List UInt8) (n : Nat) : List Value := (List.range n).flatMap fun i => dc (f i)
theorem digs_succ (f : Nat → List UInt8) (n : Nat) : digs f (n + 1) = digs f n ++ dc (f n) := by simp [digs, List.range_succ]
theorem digs_length {f : Nat → List UInt8} (hf : ∀ i, (f i).length = 32) : ∀ n, (digs f n).length = n * 32
  | 0 => rfl
  | n + 1 => by rw [digs_succ, List.length_append, digs_length hf n, dc_length, hf]; omega
theorem digs_at {f : Nat → List UInt8} (hf : ∀ i, (f i).length = 32) (Z : List Value) : ∀ n i, i < n → ((digs f n ++ Z).drop (i * 32)).take 32 = dc (f i)
  | 0, i, h => absurd h (Nat.not_lt_zero i)
  | n + 1, i, h => by
    rw [digs_succ, List.append_assoc]
    rcases Nat.lt_or_ge i n with h1 | h1
    · exact digs_at hf _ n i h1
    · obtain rfl : i = n := by omega
      rw [List.drop_left' (digs_length hf _), List.take_append_of_le_length (by rw [dc_length, hf]; exact Nat.le_refl _), List.take_of_length_le (by rw [dc_length, hf]; exact Nat.le_refl _)]
theorem own_row {w0 : World} {e : TypeId} {s : Nat} {X : List Row} {v : Value} {n : Nat} {W : List Value} (h : Own w0 e s X v n W) (hn : 0 < n) : ∃ g c Z, v = .slice (some ⟨g, 0, none⟩) n c ∧ n ≤ c ∧ w0.heap.size ≤ g ∧ X = [(g, e, W ++ Z)] := by
  rcases h.2 with ⟨_, h2, _⟩ | ⟨g, c, Z, h1, h2, h3, _, h5⟩
  · omega
  · exact ⟨g, c, Z, h1, h2, h3, h5⟩
theorem t7_src {w0 w : World} {L : List Row} {g k : Nat} {t : TypeId} {D : List UInt8} (hD : D.length = 32) (hA : At w0 L w) (hk : L[k]? = some (g, t, dc D)) : Src Tryd.prog 32 26 (.slice (some ⟨g, 0, none⟩) 1 1) 1 (dc D) w :=
  Src.ofSlice w Tryd.underlying26 ⟨g, 0, none⟩ 1 1 (dc D) (by rw [dc_length, hD]) (fun j u hj => by rw [Addr.add_mid, hA.cell hk, Nat.zero_add]; exact hj) (dc_one D)
theorem t7_ad (b j : Nat) : (⟨b, 0 + j * 32, none⟩ : Addr) = ⟨b, j * 32, none⟩ := by simp
end Go.Proofs.YtpomngkcfbnjoaaDoor
