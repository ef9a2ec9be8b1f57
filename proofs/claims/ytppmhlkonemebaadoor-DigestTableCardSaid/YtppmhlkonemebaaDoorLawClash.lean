/- The walk of DigestClash. -/
import Derived.Test.YtppmhlkonemebaaDoorCs
import Derived.Test.YtppmhlkonemebaaDoorKd
import Derived.Test.YtppmhlkonemebaaDoorKm
namespace Go.Proofs.YtppmhlkonemebaaDoor
open Go.RowKit Go.Dk
theorem cl_bsS (A : Option Addr) (n c : Nat) (w : World) : (Instr.buildSlice 29 1 #[(0, .slice A n c)]).run Tryd.prog w = .ok (.slice (some ⟨w.heap.size, 0, none⟩) 1 1) (w.alloc (.cells #[.slice A n c] 24)) := by kernel_rfl
theorem cl_elemT : elemInfo Tryd.prog 24 1 24 := elemInfo_of (z := .slice none 0 0) (by kernel_rfl) (by kernel_rfl)
theorem cl_roomyB (w0 w : World) (R : List Seg) (B : Option Addr) (l : List UInt8) (c : Nat) (hB : Rd w0 R B l) (hA : Hp w0 R w) (hl : l.length < 140737488354000) : Calls Tryd.prog 20 #[.slice B l.length c, .int .u8 165] w fun e w' => ∃ g, e = .returned (.slice (some ⟨g, 0, none⟩) (l.length + 80) (l.length + 80)) ∧ Hp w0 ([row g 5 (cel cB (l ++ List.replicate 80 165))] :: R) w' :=
  kb_roomy_byte w0 w R B l c 165 (by rw [← cel_dc]; exact hB) (fun _ _ => rfl) rfl hA hl
theorem cl_intactB (w0 w : World) (R : List Seg) (B B2 : Option Addr) (l : List UInt8) (c c2 : Nat) (hB : Rc w0 R B (cel cB (l ++ List.replicate 80 165))) (hB2 : Rd w0 R B2 l) (hc : l.length + 80 ≤ c) (hA : Hp w0 R w) (hl : l.length < 140737488354000) : Calls Tryd.prog 22 #[.slice B (l.length + 80) c, .slice B2 l.length c2, .int .u8 165] w fun e w' => e = .returned (.bool true) ∧ Hp w0 R w' :=
  kb_intact_byte w0 w R B B2 l c c2 165 hB (by rw [← cel_dc]; exact hB2) (fun _ _ => rfl) rfl hc hA hl
theorem strB_neq_f (l : List UInt8) : strB .neq l l = false := by simp [strB]
theorem cl_build0 (w : World) : (Instr.build 56 #[]).run Tryd.prog w = .ok (.agg ([.slice none 0 0, .slice none 0 0, .int .i64 0, .bool false] : List Value).toArray) w := by kernel_rfl
/-- a roomy copy, its piece turned -/
def flS (q : Nat × List UInt8) : Seg := [row q.1 5 (dc (q.2.map flip) ++ dc (List.replicate 80 165))]
def pcFl (q : Nat × List UInt8) : Piece := (some ⟨q.1, 0, none⟩, q.2.length + 80, q.2.map flip)
theorem flS_rd {w0 : World} {R : List Seg} {qs : List (Nat × List UInt8)} {q : Nat × List UInt8} (hq : q ∈ qs) (hR : (qs.map flS).flatten ∈ R) : Rd w0 R (some ⟨q.1, 0, none⟩) (q.2.map flip) := by
  have h1 : Rd w0 [flS q] (some ⟨q.1, 0, none⟩) (q.2.map flip) := Rc.ofRow (i := 0) (off := 0) rfl (by rw [List.drop_zero]; exact List.take_left' rfl)
  refine h1.monoF (fun r hr => ?_)
  rw [List.flatten_cons, List.flatten_nil, List.append_nil] at hr
  exact List.mem_flatten.2 ⟨_, hR, List.mem_flatten.2 ⟨_, List.mem_map_of_mem hq, hr⟩⟩
theorem pcs_fl {w0 : World} {R : List Seg} {A : Option Addr} {qs : List (Nat × List UInt8)} (hA : Rc w0 R A (qs.map partV)) (hR : (qs.map flS).flatten ∈ R) : PcS w0 R A (qs.map pcFl) := by
  refine ⟨?_, fun p hp => ?_⟩
  · rw [List.map_map]
    have e : (pieceV ∘ pcFl) = partV := by funext q; simp [pieceV, pcFl, partV]
    rw [e]; exact hA
  · obtain ⟨q, hq, rfl⟩ := List.mem_map.1 hp
    exact ⟨by show (q.2.map flip).length ≤ _; rw [List.length_map]; exact Nat.le_add_right _ _, flS_rd hq hR⟩
theorem pcOf_tx (qs : List (Nat × List UInt8)) : (qs.map pcOf).map (·.2.2) = qs.map (·.2) := by rw [List.map_map]; rfl
theorem pcFl_tx (qs : List (Nat × List UInt8)) : (qs.map pcFl).map (·.2.2) = (qs.map (·.2)).map (·.map flip) := by rw [List.map_map, List.map_map]; rfl
theorem sub2 {X Y : Seg} {R : List Seg} (h1 : X ∈ R) (h2 : Y ∈ R) : [X, Y] ⊆ R := fun x hx => by
  simp only [List.mem_cons, List.not_mem_nil, or_false] at hx
  rcases hx with rfl | rfl
  · exact h1
  · exact h2
theorem pc_nil {w0 : World} {ZL : Seg} {p : Piece} (h : p ∈ ([] : List Piece)) : p.2.2.length ≤ p.2.1 ∧ Rd w0 [ZL] p.1 p.2.2 := by cases h
theorem cl_keepB {n : Nat} (h : n < 140737488354000) : (n + n / 4 + 192) * 1 ≤ 281474976710656 := by omega
theorem cs_turnedN (w0 w : World) (R : List Seg) (g : Nat) (X : List UInt8) (c : Nat) (hl : X.length < 140737488355000) (hA : Hp w0 ([row g 5 (dc X ++ dc (List.replicate 80 165))] :: R) w) : Calls Tryd.prog 27 #[.slice (some ⟨g, 0, none⟩) X.length c] w fun e w' => ∃ A2 c2 Z2, e = .returned (.slice A2 X.length c2) ∧ X.length ≤ c2 ∧ Rd w0 [Z2] A2 (X.map flip) ∧ Hp w0 ([row g 5 (dc (X.map flip) ++ dc (List.replicate 80 165))] :: Z2 :: R) w' := cs_turned w0 w R g X _ c _ rfl hl hA
end Go.Proofs.YtppmhlkonemebaaDoor
