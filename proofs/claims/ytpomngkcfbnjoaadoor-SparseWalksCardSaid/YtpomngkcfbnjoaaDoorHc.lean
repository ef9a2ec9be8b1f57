/- SHA-256's hasher over segments. -/
import Derived.Test.YtpomngkcfbnjoaaDoorProg
import Derived.Test.YtpomngkcfbnjoaaDoorHr
import Derived.Test.YtpomngkcfbnjoaaDoorBook0
import Derived.Test.YtpomngkcfbnjoaaDoorBook3
import Derived.Test.YtpomngkcfbnjoaaDoorWrite0
import Derived.Test.YtpomngkcfbnjoaaDoorTree
namespace Go.Proofs.YtpomngkcfbnjoaaDoor
open Go.RowKit Go.Dk
theorem Tab.hp {w0 w : World} {S : List Seg} (hT : Tab w0) (hA : Hp w0 S w) : Tab w := fun i hi => by
  have h1 := hT i hi
  have h0 := hA.frame 0 hT.lt
  unfold World.cell? at h1 ⊢
  simp only [h0]
  exact h1
theorem Hp.poke {w0 w : World} {R : List Seg} {g : Nat} {o : Obj} (o' : Obj) (h : Hp w0 ([(g, o)] :: R) w) : ∃ w', Hp w0 ([(g, o')] :: R) w' ∧ w'.heap[g]? = some o' := by
  have hg : w.heap[g]? = some o := h.items (g, o) (List.mem_cons_self ..)
  have hlt : g < w.heap.size := (Array.getElem?_eq_some_iff.1 hg).1
  have hnew : w0.heap.size ≤ g := h.new (g, o) (List.mem_cons_self ..)
  have hd := h.dist
  simp only [List.flatten_cons, List.cons_append, List.nil_append, List.map_cons, List.nodup_cons] at hd
  have hset : (w.heap.setIfInBounds g o')[g]? = some o' := by rw [Array.getElem?_setIfInBounds_self_of_lt hlt]
  refine ⟨{ w with heap := w.heap.setIfInBounds g o' }, ⟨h.os, h.tape, h.output, by rw [Array.size_setIfInBounds]; exact h.size, ?_, ?_, ?_, ?_⟩, hset⟩
  · intro r hr
    rcases List.mem_cons.1 hr with rfl | hr
    · exact hset
    · have hne : g ≠ r.1 := fun e => hd.1 (e ▸ List.mem_map_of_mem hr)
      rw [Array.getElem?_setIfInBounds_ne hne]
      exact h.items r (List.mem_cons_of_mem _ hr)
  · simp only [List.flatten_cons, List.cons_append, List.nil_append, List.map_cons, List.nodup_cons]
    exact hd
  · intro r hr
    rcases List.mem_cons.1 hr with rfl | hr
    · exact hnew
    · exact h.new r (List.mem_cons_of_mem _ hr)
  · intro k hk
    rw [Array.getElem?_setIfInBounds_ne (by omega)]
    exact h.frame k hk
/-- what can be read beside a block does not lie in it -/
theorem Rd.off {w0 w : World} {R : List Seg} {g : Nat} {t : TypeId} {cs : List Value} {A : Option Addr} {l : List UInt8} (hR : Rd w0 R A l) (hA : Hp w0 ([row g t cs] :: R) w) : l ≠ [] → Off A g := fun hne ad he hb => by
  obtain ⟨b, o, h1, h2⟩ := hR (fun e => hne (List.length_eq_zero_iff.1 (by rw [← dc_length, e]; rfl)))
  rw [h1] at he
  injection he with he
  subst he
  subst hb
  obtain ⟨w', h3, h4⟩ := Hp.poke (.cells (List.toArray []) t (0, 0)) hA
  have h5 := (h2 w' (Hp.tail h3).q).2 0 (by rw [dc_length]; exact List.length_pos_iff.2 hne)
  rw [cell_of_row w' b (o + 0) _ t (0, 0) h4] at h5
  have h6 : (dc l)[0]? = some (.int .u8 ((bAt l 0).toNat : Int)) := dc_at (List.length_pos_iff.2 hne)
  rw [h6] at h5
  simp at h5
theorem Hp.apart {w0 w : World} {X : Seg} {S : List Seg} {r r' : Dk.Item} (h : Hp w0 (X :: S) w) (hr : r ∈ X) (hr' : r' ∈ S.flatten) : r'.1 ≠ r.1 := fun e => by
  have hd := h.dist
  rw [List.flatten_cons, List.map_append, List.nodup_append] at hd
  exact hd.2.2 _ (List.mem_map_of_mem hr) _ (List.mem_map_of_mem hr') e.symm
end Go.Proofs.YtpomngkcfbnjoaaDoor
