/- Items in any order: one row. No program is walked here. -/
import Derived.Test.YtpomngkcfbnjoaaDoorSpI
namespace Go.Proofs.YtpomngkcfbnjoaaDoor
open Go Go.RowKit Go.Dk
def Ris (l : List Itm) : Prop := l.Pairwise fun a b => nb a.k < nb b.k
theorem insL_iff {i : Itm} : ∀ {l : List Itm}, Ris l → ∀ x, x ∈ insL i l ↔ x = i ∨ (x ∈ l ∧ nb x.k ≠ nb i.k)
  | [], _, x => by show x ∈ [i] ↔ _; simp
  | j :: l, h, x => by
    obtain ⟨h1, h2⟩ := List.pairwise_cons.1 h
    have ih := insL_iff (i := i) h2 x
    unfold insL
    split
    · rename_i hlt
      rw [List.mem_cons, ih, List.mem_cons]
      constructor
      · rintro (rfl | rfl | ⟨h3, h4⟩)
        · exact .inr ⟨.inl rfl, by omega⟩
        · exact .inl rfl
        · exact .inr ⟨.inr h3, h4⟩
      · rintro (rfl | ⟨rfl | h3, h4⟩)
        · exact .inr (.inl rfl)
        · exact .inl rfl
        · exact .inr (.inr ⟨h3, h4⟩)
    · split
      · rename_i hlt he
        rw [List.mem_cons, List.mem_cons]
        constructor
        · rintro (rfl | h3)
          · exact .inl rfl
          · exact .inr ⟨.inr h3, by have := h1 x h3; omega⟩
        · rintro (rfl | ⟨rfl | h3, h4⟩)
          · exact .inl rfl
          · exact absurd he h4
          · exact .inr h3
      · rename_i hlt he
        rw [List.mem_cons]
        constructor
        · rintro (rfl | h3)
          · exact .inl rfl
          · refine .inr ⟨h3, ?_⟩
            rcases List.mem_cons.1 h3 with rfl | h3
            · exact he
            · have := h1 x h3; omega
        · rintro (rfl | ⟨h3, _⟩)
          · exact .inl rfl
          · exact .inr h3
theorem insL_ris {i : Itm} : ∀ {l : List Itm}, Ris l → Ris (insL i l)
  | [], _ => List.pairwise_singleton _ _
  | j :: l, h => by
    obtain ⟨h1, h2⟩ := List.pairwise_cons.1 h
    unfold insL
    split
    · rename_i hlt
      refine List.pairwise_cons.2 ⟨fun x hx => ?_, insL_ris h2⟩
      rcases insL_mem hx with rfl | hx
      · exact hlt
      · exact h1 x hx
    · split
      · rename_i hlt he
        exact List.pairwise_cons.2 ⟨fun x hx => by have := h1 x hx; omega, h2⟩
      · rename_i hlt he
        refine List.pairwise_cons.2 ⟨fun x hx => ?_, h⟩
        rcases List.mem_cons.1 hx with rfl | hx
        · omega
        · have := h1 x hx; omega
theorem ris_ext : ∀ {l m : List Itm}, Ris l → Ris m → (∀ x, x ∈ l ↔ x ∈ m) → l = m
  | [], [], _, _, _ => rfl
  | [], y :: m, _, _, h => absurd ((h y).2 (List.mem_cons_self ..)) (by simp)
  | x :: l, [], _, _, h => absurd ((h x).1 (List.mem_cons_self ..)) (by simp)
  | x :: l, y :: m, hl, hm, h => by
    obtain ⟨l1, l2⟩ := List.pairwise_cons.1 hl
    obtain ⟨m1, m2⟩ := List.pairwise_cons.1 hm
    have e : x = y := by
      rcases List.mem_cons.1 ((h x).1 (List.mem_cons_self ..)) with e | hx
      · exact e
      · rcases List.mem_cons.1 ((h y).2 (List.mem_cons_self ..)) with e | hy
        · exact e.symm
        · have h1 := l1 y hy
          have h2 := m1 x hx
          omega
    subst e
    rw [ris_ext l2 m2 fun z => ?_]
    have hz := h z
    rw [List.mem_cons, List.mem_cons] at hz
    constructor
    · intro h3
      rcases hz.1 (.inr h3) with rfl | h4
      · have := l1 z h3; omega
      · exact h4
    · intro h3
      rcases hz.2 (.inr h3) with rfl | h4
      · have := m1 z h3; omega
      · exact h4
theorem hasK_iff (L : List Itm) (k : List UInt8) : hasK L k = true ↔ ∃ x ∈ L, x.k = k := by
  unfold hasK
  rw [List.any_eq_true]
  simp
def NeK (l : List Itm) : Prop := l.Pairwise fun a b => a.k ≠ b.k
/-- built: just if every count may be and no key stands twice; then all of them -/
theorem bldS_spec : ∀ {acc l : List Itm}, Ris acc → (∀ i ∈ acc, i.OK) → (∀ i ∈ l, i.OK) →
    ((bldS acc l).1 = 0 ↔ (∀ i ∈ l, okC i = true) ∧ NeK l ∧ ∀ i ∈ l, ∀ j ∈ acc, i.k ≠ j.k) ∧ ((bldS acc l).1 = 0 → Ris (bldS acc l).2 ∧ ∀ x, x ∈ (bldS acc l).2 ↔ x ∈ acc ∨ x ∈ l)
  | acc, [], h, _, _ => by
    refine ⟨⟨fun _ => ⟨(fun i hi => by cases hi), List.Pairwise.nil, (fun i hi => by cases hi)⟩, fun _ => rfl⟩, fun _ => ⟨h, fun x => ?_⟩⟩
    show x ∈ acc ↔ _
    simp
  | acc, i :: l, h, ha, hl => by
    have hi := hl i (List.mem_cons_self ..)
    have hl2 : ∀ x ∈ l, x.OK := fun x hx => hl x (List.mem_cons_of_mem _ hx)
    obtain ⟨ih1, ih2⟩ := bldS_spec (acc := insL i acc) (l := l) (insL_ris h) (insL_ok hi ha) hl2
    unfold bldS
    split
    · rename_i hc
      split
      · rename_i hk
        obtain ⟨x, hx, hxk⟩ := (hasK_iff _ _).1 hk
        refine ⟨⟨fun e => (by cases e), fun ⟨_, _, h3⟩ => absurd hxk.symm (h3 i (List.mem_cons_self ..) x hx)⟩, fun e => (by cases e)⟩
      · rename_i hk
        have hk2 : ∀ j ∈ acc, i.k ≠ j.k := fun j hj e => hk ((hasK_iff _ _).2 ⟨j, hj, e.symm⟩)
        have hm : ∀ x, x ∈ insL i acc ↔ x = i ∨ x ∈ acc := fun x => by
          rw [insL_iff h]
          constructor
          · rintro (e | ⟨h3, _⟩)
            · exact .inl e
            · exact .inr h3
          · rintro (e | h3)
            · exact .inl e
            · exact .inr ⟨h3, fun e => hk2 x h3 ((nb_inj ((ha x h3).k.trans hi.k.symm) e).symm)⟩
        refine ⟨ih1.trans ⟨fun ⟨h1, h2, h3⟩ => ⟨fun x hx => ?_, ?_, fun x hx j hj => ?_⟩, fun ⟨h1, h2, h3⟩ => ⟨fun x hx => h1 x (List.mem_cons_of_mem _ hx), (List.pairwise_cons.1 h2).2, fun x hx j hj => ?_⟩⟩, fun h0 => ⟨(ih2 h0).1, fun x => ?_⟩⟩
        · rcases List.mem_cons.1 hx with rfl | hx
          · exact hc
          · exact h1 x hx
        · exact List.pairwise_cons.2 ⟨fun x hx => (h3 x hx i ((hm i).2 (.inl rfl))).symm, h2⟩
        · rcases List.mem_cons.1 hx with rfl | hx
          · exact hk2 j hj
          · exact h3 x hx j ((hm j).2 (.inr hj))
        · rcases (hm j).1 hj with rfl | hj
          · exact ((List.pairwise_cons.1 h2).1 x hx).symm
          · exact h3 x (List.mem_cons_of_mem _ hx) j hj
        · rw [(ih2 h0).2 x, hm x, List.mem_cons]
          constructor
          · rintro ((e | h3) | h3)
            · exact .inr (.inl e)
            · exact .inl h3
            · exact .inr (.inr h3)
          · rintro (h3 | e | h3)
            · exact .inl (.inr h3)
            · exact .inl (.inl e)
            · exact .inr h3
    · rename_i hc
      refine ⟨⟨fun e => (by cases e), fun ⟨h1, _, _⟩ => absurd (h1 i (List.mem_cons_self ..)) hc⟩, fun e => (by cases e)⟩
theorem NeK.perm {l m : List Itm} (h : NeK l) (hp : l.Perm m) : NeK m := (hp.pairwise_iff (fun hab => Ne.symm hab)).1 h
theorem bld_length {l : List Itm} (hl : ∀ i ∈ l, i.OK) (h0 : (bldS [] l).1 = 0) : (bldS [] l).2.length = l.length := by
  obtain ⟨a1, a2⟩ := bldS_spec (acc := []) (l := l) List.Pairwise.nil (fun i hi => by cases hi) hl
  obtain ⟨_, h2, _⟩ := a1.1 h0
  obtain ⟨c1, c2⟩ := a2 h0
  have n1 : (bldS [] l).2.Nodup := List.Pairwise.imp (fun {a b} h e => by subst e; omega) c1
  have n2 : l.Nodup := List.Pairwise.imp (fun {a b} h e => h (by rw [e])) h2
  refine ((List.perm_ext_iff_of_nodup n1 n2).2 fun x => ?_).length_eq
  rw [c2 x]
  simp
/-- what a tree holds while items are put: no foreign keys; those from t on are there -/
structure Put2 (m Lc : List Itm) (t : Nat) : Prop where
  ris : Ris Lc
  ok : ∀ x ∈ Lc, x.OK
  keys : ∀ x ∈ Lc, ∃ y ∈ m, y.k = x.k
  there : ∀ (j : Nat) (y : Itm), t ≤ j → m[j]? = some y → y ∈ Lc
theorem Put2.start (m : List Itm) : Put2 m [] m.length := ⟨List.Pairwise.nil, (fun x hx => by cases hx), (fun x hx => by cases hx), fun j y hj h => by rw [List.getElem?_eq_none hj] at h; cases h⟩
theorem Put2.done {m Lc L : List Itm} (h : Put2 m Lc 0) (hm : ∀ i ∈ m, i.OK) (hL : Ris L) (hx : ∀ x, x ∈ L ↔ x ∈ m) : Lc = L := by
  refine ris_ext h.ris hL fun x => ?_
  rw [hx x]
  have hin : ∀ y ∈ m, y ∈ Lc := fun y hy => by
    obtain ⟨j, hj, rfl⟩ := List.getElem_of_mem hy
    exact h.there j _ (Nat.zero_le _) (List.getElem?_eq_getElem hj)
  refine ⟨fun hx => ?_, hin x⟩
  obtain ⟨y, hy, hk⟩ := h.keys x hx
  have hy2 := hin y hy
  have : x = y := by
    rcases List.getElem_of_mem hx with ⟨a, ha, rfl⟩
    rcases List.getElem_of_mem hy2 with ⟨b, hb, rfl⟩
    rcases Nat.lt_trichotomy a b with hlt | rfl | hlt
    · have := List.pairwise_iff_getElem.1 h.ris a b ha hb hlt; rw [hk] at this; omega
    · rfl
    · have := List.pairwise_iff_getElem.1 h.ris b a hb ha hlt; rw [hk] at this; omega
  rw [this]; exact hy
end Go.Proofs.YtpomngkcfbnjoaaDoor
