/- SHA-256's hasher over segments. -/
import Derived.Test.YtppmhlkonemebaaDoorKb
import Derived.Test.YtppmhlkonemebaaDoorBook3
import Derived.Test.YtppmhlkonemebaaDoorWrite0
import Derived.Test.YtppmhlkonemebaaDoorFork
import Derived.Test.YtppmhlkonemebaaDoorRefSum
import Derived.Test.YtppmhlkonemebaaDoorDigest
namespace Go.Proofs.YtppmhlkonemebaaDoor
open Go.RowKit Go.Dk
/-- block g is a hasher that has taken m -/
def HsS (g : Nat) (m : List UInt8) (Y : Seg) : Prop := ∃ cs, HS m cs ∧ Y = [row g 87 cs]
theorem Tab.hp {w0 w : World} {S : List Seg} (hT : Tab w0) (hA : Hp w0 S w) : Tab w := fun i hi => by
  have h1 := hT i hi
  have h0 := hA.frame 0 hT.lt
  unfold World.cell? at h1 ⊢
  simp only [h0]
  exact h1
theorem Hp.poke {w0 w : World} {R : List Seg} {g : Nat} {o : Obj} (o' : Obj) (h : Hp w0 ([(g, o)] :: R) w) : ∃ w', Hp w0 ([(g, o')] :: R) w' ∧ w'.heap[g]? = some o' := by
  have hg : w.heap[g]? = some o := h.items (g, o) (List.mem_cons_self ..)
  have hlt : g < w.heap.size := (Array.getElem?_eq_some_iff.1 hg).1
  have hnew : w0.heap.size ≤ g := h.new (g, o) (List.mem_cons_self ..)
  have hd := h.dist
  simp only [List.flatten_cons, List.cons_append, List.nil_append, List.map_cons, List.nodup_cons] at hd
  have hset : (w.heap.setIfInBounds g o')[g]? = some o' := by rw [Array.getElem?_setIfInBounds_self_of_lt hlt]
  refine ⟨{ w with heap := w.heap.setIfInBounds g o' }, ⟨h.os, h.tape, h.output, by rw [Array.size_setIfInBounds]; exact h.size, ?_, ?_, ?_, ?_⟩, hset⟩
  · intro r hr
    rcases List.mem_cons.1 hr with rfl | hr
    · exact hset
    · have hne : g ≠ r.1 := fun e => hd.1 (e ▸ List.mem_map_of_mem hr)
      rw [Array.getElem?_setIfInBounds_ne hne]
      exact h.items r (List.mem_cons_of_mem _ hr)
  · simp only [List.flatten_cons, List.cons_append, List.nil_append, List.map_cons, List.nodup_cons]
    exact hd
  · intro r hr
    rcases List.mem_cons.1 hr with rfl | hr
    · exact hnew
    · exact h.new r (List.mem_cons_of_mem _ hr)
  · intro k hk
    rw [Array.getElem?_setIfInBounds_ne (by omega)]
    exact h.frame k hk
/-- what can be read beside a block does not lie in it -/
theorem Rd.off {w0 w : World} {R : List Seg} {g : Nat} {t : TypeId} {cs : List Value} {A : Option Addr} {l : List UInt8} (hR : Rd w0 R A l) (hA : Hp w0 ([row g t cs] :: R) w) : l ≠ [] → Off A g := fun hne ad he hb => by
  obtain ⟨b, o, h1, h2⟩ := hR (fun e => hne (List.length_eq_zero_iff.1 (by rw [← dc_length, e]; rfl)))
  rw [h1] at he
  injection he with he
  subst he
  subst hb
  obtain ⟨w', h3, h4⟩ := Hp.poke (.cells (List.toArray []) t (0, 0)) hA
  have h5 := (h2 w' (Hp.tail h3).q).2 0 (by rw [dc_length]; exact List.length_pos_iff.2 hne)
  rw [cell_of_row w' b (o + 0) _ t (0, 0) h4] at h5
  have h6 : (dc l)[0]? = some (.int .u8 ((bAt l 0).toNat : Int)) := dc_at (List.length_pos_iff.2 hne)
  rw [h6] at h5
  simp at h5
theorem hc_new (w0 w : World) (R : List Seg) (hA : Hp w0 R w) : Calls Tryd.prog 13 #[] w fun e w' => ∃ g Y, e = .returned (.pointer (some ⟨g, 0, none⟩)) ∧ HsS g [] Y ∧ Hp w0 (Y :: R) w' := by
  refine (new_any w).mono ?_
  rintro e w' ⟨n, cs, rfl, hn, hH, hw⟩
  exact ⟨n, _, rfl, ⟨cs, hH, rfl⟩, hA.thenNew hw (new1 hn)⟩
theorem hc_ne0 {w0 w : World} {R : List Seg} {hb : Nat} {t : TypeId} {cs : List Value} (hT : Tab w0) (hA : Hp w0 ([row hb t cs] :: R) w) : hb ≠ 0 := by
  have h1 := hA.new (row hb t cs) (List.mem_cons_self ..)
  have h2 := hT.lt
  have h3 : w0.heap.size ≤ hb := h1
  omega
theorem hc_sum (w0 w : World) (R : List Seg) (hb : Nat) (m : List UInt8) (Y : Seg) (hT : Tab w0) (hY : HsS hb m Y) (hA : Hp w0 (Y :: R) w) (hl : m.length < 1152921504606846900) : Calls Tryd.prog 15 #[.pointer (some ⟨hb, 0, none⟩)] w fun e w' => e = .returned (.agg (dc (sha m)).toArray) ∧ Hp w0 (Y :: R) w' := by
  obtain ⟨cs, hH, rfl⟩ := hY
  refine (sum_any w hb m cs hH (hA.rowAt (i := 0) rfl) (by omega) (hT.hp hA) (hc_ne0 hT hA)).mono ?_
  rintro e w' ⟨rfl, hw⟩
  exact ⟨rfl, hA.then0 hw⟩
theorem hc_refsum (w0 w : World) (R : List Seg) (A : Option Addr) (l : List UInt8) (c : Nat) (hR : Rd w0 R A l) (hA : Hp w0 R w) (hl : l.length < 140737488355328) : Calls Tryd.prog 19 #[.slice A l.length c] w fun e w' => e = .returned (.agg (dc (sha l)).toArray) ∧ Hp w0 R w' := by
  refine (refsum_any w A l c l.length rfl (hR.bts hA.q) hl).mono ?_
  rintro e w' ⟨rfl, hw⟩
  exact ⟨rfl, hA.then0 hw⟩
theorem hc_write (w0 w : World) (R : List Seg) (hb : Nat) (m : List UInt8) (Y : Seg) (A : Option Addr) (l : List UInt8) (c : Nat) (hT : Tab w0) (hY : HsS hb m Y) (hR : Rd w0 R A l) (hc : l.length ≤ c) (hA : Hp w0 (Y :: R) w) (hl : m.length + l.length < 1152921504606846976) : Calls Tryd.prog 14 #[.pointer (some ⟨hb, 0, none⟩), .slice A l.length c] w fun e w' => ∃ Y', e = .returned (.tuple #[]) ∧ HsS hb (m ++ l) Y' ∧ Hp w0 (Y' :: R) w' := by
  obtain ⟨cs, hH, rfl⟩ := hY
  refine (write_all w hb m cs hH (hA.rowAt (i := 0) rfl) A l c (hR.bts (Hp.tail hA).q) hc (Rd.off hR hA) hl (hT.hp hA) (hc_ne0 hT hA)).mono ?_
  rintro e w' ⟨rfl, cs', hH', hw⟩
  exact ⟨_, rfl, ⟨cs', hH', rfl⟩, hA.then1 (i := 0) rfl hw⟩
theorem hc_forkF (w0 w : World) (S : List Seg) (hb : Nat) (m : List UInt8) (Y : Seg) (hY : HsS hb m Y) (hm : Y ⊆ S.flatten) (hA : Hp w0 S w) : Calls Tryd.prog 24 #[.pointer (some ⟨hb, 0, none⟩)] w fun e w' => ∃ g Z, e = .returned (.pointer (some ⟨g, 0, none⟩)) ∧ HsS g m Z ∧ Hp w0 (Z :: S) w' := by
  obtain ⟨cs, hH, rfl⟩ := hY
  refine (fork_any w hb m cs hH (hA.items _ (hm (List.mem_cons_self ..)))).mono ?_
  rintro e w' ⟨n, cs', rfl, hn, hH', hw⟩
  exact ⟨n, _, rfl, ⟨cs', hH', rfl⟩, hA.thenNew hw (new1 hn)⟩
theorem hc_sumF (w0 w : World) (S : List Seg) (hb : Nat) (m : List UInt8) (Y : Seg) (hT : Tab w0) (hY : HsS hb m Y) (hm : Y ⊆ S.flatten) (hA : Hp w0 S w) (hl : m.length < 1152921504606846900) : Calls Tryd.prog 15 #[.pointer (some ⟨hb, 0, none⟩)] w fun e w' => e = .returned (.agg (dc (sha m)).toArray) ∧ Hp w0 S w' := by
  obtain ⟨cs, hH, rfl⟩ := hY
  have h1 : w0.heap.size ≤ hb := hA.new _ (hm (List.mem_cons_self ..))
  have h2 := hT.lt
  refine (sum_any w hb m cs hH (hA.items _ (hm (List.mem_cons_self ..))) (by omega) (hT.hp hA) (by omega)).mono ?_
  rintro e w' ⟨rfl, hw⟩
  exact ⟨rfl, hA.then0 hw⟩
theorem Hp.apart {w0 w : World} {X : Seg} {S : List Seg} {r r' : Dk.Item} (h : Hp w0 (X :: S) w) (hr : r ∈ X) (hr' : r' ∈ S.flatten) : r'.1 ≠ r.1 := fun e => by
  have hd := h.dist
  rw [List.flatten_cons, List.map_append, List.nodup_append] at hd
  exact hd.2.2 _ (List.mem_map_of_mem hr) _ (List.mem_map_of_mem hr') e.symm
/-- two pointers into unlike blocks -/
theorem y_ptrNeH {P : Program} {n : Nat} {F : List (Nat × Value)} {o : Oper} {w : World} {x y : Operand} {t te t' : TypeId} {i : TypeInfo} {g h : Nat} {ta tb : TypeId} {ca cb : List Value} (ho : o.op = .binOp .eql t x y t') (hu : P.underlying t = some (.pointer te)) (hi : P.info? te = some i) (hsz : i.size ≠ 0)
    (hg : w.heap[g]? = some (.cells ca.toArray ta (0, 0))) (hh : w.heap[h]? = some (.cells cb.toArray tb (0, 0))) (hne : g ≠ h) (hx : ev F x = some (.pointer (some ⟨g, 0, none⟩))) (hy : ev F y = some (.pointer (some ⟨h, 0, none⟩))) : Yd P n F o w (.bool false) := fun a hF => by
  unfold execOp
  have h1 : (eqGuard .eql t x y (.pointer (some ⟨g, 0, none⟩)) (.pointer (some ⟨h, 0, none⟩))).run P w = .ok () w := rfl
  simp only [ho, hF.ev hx, hF.ev hy, Sem.run_bind, h1, Result.andThen_ok]
  rw [run_eql_ptr_other (ca := ca.toArray) (cb := cb.toArray) w hu hi hsz (fun he => hne (by injection he)) hg hh]
  rfl
end Go.Proofs.YtppmhlkonemebaaDoor
