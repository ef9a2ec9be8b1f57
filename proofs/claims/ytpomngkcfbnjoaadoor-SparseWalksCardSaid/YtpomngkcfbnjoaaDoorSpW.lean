/- What a tree of items proves, and what is built of items: plain functions and their laws. No program is walked here. -/
import Derived.Test.YtpomngkcfbnjoaaDoorSpU
namespace Go.Proofs.YtpomngkcfbnjoaaDoor
open Go Go.RowKit Go.Dk

/-! ### the neighbours on a key's way -/
theorem partsN_comm (a b : List UInt8) : partsN a b = partsN b a := by
  refine partsN_eq (partsN_le b a) (partsN_agree b a).symm fun h => ?_
  exact fun e => partsN_ne h e.symm
/-- the items that part from a key at the height h -/
def offK (k : List UInt8) (h : Nat) (l : List Itm) : List Itm := l.filter fun i => decide (partsN i.k k = 255 - h)
theorem offK_append (k : List UInt8) (h : Nat) (l r : List Itm) : offK k h (l ++ r) = offK k h l ++ offK k h r := List.filter_append ..
theorem offK_all {k : List UInt8} {h : Nat} {l : List Itm} (hl : ∀ i ∈ l, partsN i.k k = 255 - h) : offK k h l = l := List.filter_eq_self.2 fun i hi => decide_eq_true (hl i hi)
theorem offK_none {k : List UInt8} {h : Nat} {l : List Itm} (hl : ∀ i ∈ l, partsN i.k k ≠ 255 - h) : offK k h l = [] := List.filter_eq_nil_iff.2 fun i hi => by simpa using hl i hi
def nbr (width : Int) (k : List UInt8) (L : List Itm) (h : Nat) : List UInt8 := subE width h (offK k h L)
/-- as far as the way is gone: f is what stands in the list, t what is still ahead -/
def BInv (width : Int) (k : List UInt8) (L : List Itm) (t : Rx) (f : Nat → List UInt8) : Prop :=
  ∀ h, h < 256 → offK k h L = offK k h t.items ∧ f h = emptyL width h ∨ offK k h t.items = [] ∧ f h = nbr width k L h
def updF (f : Nat → List UInt8) (h0 : Nat) (d : List UInt8) : Nat → List UInt8 := fun h => if h = h0 then d else f h
theorem updF_at (f : Nat → List UInt8) (h0 : Nat) (d : List UInt8) : updF f h0 d h0 = d := if_pos rfl
theorem updF_ne (f : Nat → List UInt8) {h0 h : Nat} (d : List UInt8) (hh : h ≠ h0) : updF f h0 d h = f h := if_neg hh
theorem BInv.top (width : Int) (k : List UInt8) (t : Rx) : BInv width k t.items t (emptyL width) := fun _ _ => .inl ⟨rfl, rfl⟩
theorem BInv.done {width : Int} {k : List UInt8} {L : List Itm} {t : Rx} {f : Nat → List UInt8} (hI : BInv width k L t f) (hn : ∀ h, h < 256 → offK k h t.items = []) : ∀ h, h < 256 → f h = nbr width k L h := fun h hh => by
  rcases hI h hh with ⟨h1, h2⟩ | ⟨_, h2⟩
  · unfold nbr; rw [h1, hn h hh, subE_nil]; exact h2
  · exact h2
theorem BInv.empty (width : Int) (k : List UInt8) : ∀ h, h < 256 → emptyL width h = nbr width k [] h := fun h _ => by
  unfold nbr offK
  rw [List.filter_nil, subE_nil]
/-- the key itself -/
theorem BInv.leaf {width : Int} {k : List UInt8} {L : List Itm} {i : Itm} {f : Nat → List UInt8} (hI : BInv width k L (.leaf i) f) (hp : ¬ partsN k i.k < 256) : ∀ h, h < 256 → f h = nbr width k L h :=
  hI.done fun h hh => offK_none fun x hx => by
    rw [List.mem_singleton.1 hx, partsN_comm]; omega
theorem Rx.Good.parts {t : Rx} (hg : t.Good) {k : List UInt8} (hp : partsN k t.key < t.bit) : ∀ i ∈ t.items, partsN i.k k = partsN k t.key := fun i hi => by
  have hb := Rx.bit_le hg
  have h1 := hg.agree i hi
  rw [partsN_comm]
  refine partsN_eq (by omega) (fun j hj => ?_) (fun _ => ?_)
  · rw [h1 j (by omega)]; exact partsN_agree k t.key j hj
  · rw [h1 _ hp]; exact partsN_ne (by omega)
/-- the way leaves the tree -/
theorem BInv.out {width : Int} {k : List UInt8} {L : List Itm} {t : Rx} {f : Nat → List UInt8} (hg : t.Good) (hI : BInv width k L t f) (hp : partsN k t.key < t.bit) : ∀ h, h < 256 → updF f (255 - partsN k t.key) (t.lift width (255 - partsN k t.key)) h = nbr width k L h := fun h hh => by
  have hb := Rx.bit_le hg
  have h1 := hg.parts hp
  by_cases he : h = 255 - partsN k t.key
  · subst he
    have h2 : offK k (255 - partsN k t.key) t.items = t.items := offK_all fun i hi => by rw [h1 i hi]; omega
    rw [updF_at, Rx.lift_sub hg (by omega) (by omega)]
    rcases hI _ hh with ⟨h3, _⟩ | ⟨h3, _⟩
    · unfold nbr; rw [h3, h2]
    · rw [h2] at h3; exact absurd h3 t.items_ne
  · have h2 : offK k h t.items = [] := offK_none fun i hi => by rw [h1 i hi]; omega
    rw [updF_ne _ _ he]
    rcases hI h hh with ⟨h3, h4⟩ | ⟨_, h4⟩
    · unfold nbr; rw [h3, h2, subE_nil]; exact h4
    · exact h4
/-- the way goes on on one side -/
theorem BInv.side {width : Int} {k : List UInt8} {L : List Itm} {b : Nat} {l r m o : Rx} {f : Nat → List UInt8} (hg : (Rx.fork b l r).Good) (hI : BInv width k L (.fork b l r) f) (hp : ¬ partsN k l.key < b) (hs : keyBit k b = 0 ∧ m = l ∧ o = r ∨ keyBit k b = 1 ∧ m = r ∧ o = l) : BInv width k L m (updF f (255 - b) (o.lift width (255 - b))) := by
  obtain ⟨h1, h2, h3, h4, h5, h6⟩ := hg
  have hlb := Rx.bit_le h1
  have hrb := Rx.bit_le h2
  have hk : agree k l.key b := (partsN_agree k l.key).le (by omega)
  have hob : 256 - o.bit ≤ 255 - b ∧ o.Good := by
    rcases hs with ⟨_, _, rfl⟩ | ⟨_, _, rfl⟩
    · exact ⟨by omega, h2⟩
    · exact ⟨by omega, h1⟩
  have ho : ∀ i ∈ o.items, partsN i.k k = b := fun i hi => by
    rcases hs with ⟨hb, _, rfl⟩ | ⟨hb, _, rfl⟩
    · exact partsN_eq (by omega) ((h6 i hi).1.trans hk.symm) fun _ => by rw [(h6 i hi).2, hb]; decide
    · exact partsN_eq (by omega) ((h5 i hi).1.trans hk.symm) fun _ => by rw [(h5 i hi).2, hb]; decide
  have hm : ∀ i ∈ m.items, b + 1 ≤ partsN i.k k := fun i hi => by
    rcases hs with ⟨hb, rfl, _⟩ | ⟨hb, rfl, _⟩
    · exact partsN_ge (by omega) (((h5 i hi).1.trans hk.symm).succ (by rw [(h5 i hi).2, hb]))
    · exact partsN_ge (by omega) (((h6 i hi).1.trans hk.symm).succ (by rw [(h6 i hi).2, hb]))
  intro h hh
  by_cases he : h = 255 - b
  · subst he
    have e1 : offK k (255 - b) o.items = o.items := offK_all fun i hi => by rw [ho i hi]; omega
    have e2 : offK k (255 - b) m.items = [] := offK_none fun i hi => by have := hm i hi; omega
    have e3 : offK k (255 - b) (Rx.fork b l r).items = o.items := by
      show offK k (255 - b) (l.items ++ r.items) = _
      rw [offK_append]
      rcases hs with ⟨_, rfl, rfl⟩ | ⟨_, rfl, rfl⟩
      · rw [e1, e2, List.nil_append]
      · rw [e1, e2, List.append_nil]
    refine .inr ⟨e2, ?_⟩
    rw [updF_at, Rx.lift_sub hob.2 hob.1 (by omega)]
    rcases hI _ hh with ⟨h7, _⟩ | ⟨h7, _⟩
    · unfold nbr; rw [h7, e3]
    · rw [e3] at h7; exact absurd h7 o.items_ne
  · have e1 : offK k h o.items = [] := offK_none fun i hi => by rw [ho i hi]; omega
    have e3 : offK k h (Rx.fork b l r).items = offK k h m.items := by
      show offK k h (l.items ++ r.items) = _
      rw [offK_append]
      rcases hs with ⟨_, rfl, rfl⟩ | ⟨_, rfl, rfl⟩
      · rw [e1, List.append_nil]
      · rw [e1, List.nil_append]
    rw [updF_ne _ _ he, ← e3]
    exact hI h hh

/-! ### what is proved -/
def zeroD : List UInt8 := List.replicate 32 0
/-- what a key has -/
def getL (L : List Itm) (k : List UInt8) : Option Itm := L.find? fun i => decide (i.k = k)
def getCt (L : List Itm) (k : List UInt8) : Int := match getL L k with | some i => i.ct | none => 0
def getCh (L : List Itm) (k : List UInt8) : List UInt8 := match getL L k with | some i => i.ch | none => zeroD
/-! ### built of items -/
def okC (i : Itm) : Bool := decide (1 ≤ i.ct ∧ i.ct ≤ 1099511627776)
def hasK (L : List Itm) (k : List UInt8) : Bool := L.any fun i => decide (i.k = k)
/-- the items one behind the other: why it is refused, and the row -/
def bldS (acc : List Itm) : List Itm → Nat × List Itm
  | [] => (0, acc)
  | i :: l => if okC i = true then (if hasK acc i.k = true then (92, []) else bldS (insL i acc) l) else (8, [])
theorem getL_has (L : List Itm) (k : List UInt8) : (getL L k).isSome = hasK L k := by
  unfold getL hasK
  induction L with
  | nil => rfl
  | cons i L ih =>
    by_cases h : i.k = k
    · rw [List.find?_cons_of_pos (by exact decide_eq_true h), List.any_cons, decide_eq_true h]; rfl
    · rw [List.find?_cons_of_neg (by simpa using h), List.any_cons, decide_eq_false h, ih]; rfl
theorem insL_len {i : Itm} : ∀ (l : List Itm), (insL i l).length ≤ l.length + 1
  | [] => Nat.le_refl _
  | j :: l => by
    have := insL_len (i := i) l
    unfold insL
    split
    · show _ + 1 ≤ _; show (insL i l).length + 1 ≤ l.length + 1 + 1; omega
    · split
      · show l.length + 1 ≤ l.length + 1 + 1; omega
      · exact Nat.le_refl _
theorem insL_ok {i : Itm} (hi : i.OK) {l : List Itm} (hl : ∀ x ∈ l, x.OK) : ∀ x ∈ insL i l, x.OK := fun x hx => by
  rcases insL_mem hx with rfl | h
  · exact hi
  · exact hl x h
end Go.Proofs.YtpomngkcfbnjoaaDoor
