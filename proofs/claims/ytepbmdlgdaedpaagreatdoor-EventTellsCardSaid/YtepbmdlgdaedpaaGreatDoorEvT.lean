/- What a State is, and when two States are the same bytes: plain Lean. -/
import Derived.Test.YtepbmdlgdaedpaaGreatDoorEvI
namespace Go.Proofs.YtepbmdlgdaedpaaGreatDoor
open Go.RowKit Go.Dk

/-- what a row of bindings holds of a name -/
def heldV (l : List (List UInt8 × Val)) (nm : List UInt8) : Val := ((l.find? fun b => decide (b.1 = nm)).map (·.2)).getD noVal
/-- 1 open, else 2 closed, else 0 -/
def lifeN (op cl : List (List UInt8)) (nm : List UInt8) : Nat := if nm ∈ op then 1 else if nm ∈ cl then 2 else 0
def flagB (b : Bool) : List UInt8 := [if b then 1 else 0]
def stB (typ : List UInt8) (cnt : Int) (ch : List UInt8) (vs : List Val) (lf : List Nat) (mk : List Bool) : List UInt8 :=
  nameB typ ++ be 8 (u64 cnt) ++ ch ++ be 2 vs.length ++ vs.flatMap Val.put ++ be 2 lf.length ++ lf.flatMap (be 1) ++ be 2 mk.length ++ mk.flatMap flagB
def stE (typ : List UInt8) (vs : List Val) (k1 k2 k3 : Nat) : Nat := if legalN typ = false then 34 else if 64 < max (max k1 k2) k3 then 7 else firstR vs

theorem app_eq {α : Type} {a b c d : List α} (h : a.length = b.length) (e : a ++ c = b ++ d) : a = b ∧ c = d := List.append_inj e h
theorem be_inj {K m n : Nat} (hm : m < 256 ^ K) (hn : n < 256 ^ K) (h : be K m = be K n) : m = n := by
  have h1 := numR_be hm []
  have h2 := numR_be hn []
  rw [h, h2] at h1
  injection h1 with h3
  exact h3.symm
theorem nameB_inj {s t c d : List UInt8} (hs : s.length ≤ 64) (ht : t.length ≤ 64) (h : nameB s ++ c = nameB t ++ d) : s = t ∧ c = d := by
  unfold nameB at h
  rw [List.append_assoc, List.append_assoc] at h
  obtain ⟨h1, h2⟩ := app_eq (by rw [be_length, be_length]) h
  have h3 : s.length = t.length := be_inj (K := 2) (by show s.length < 65536; omega) (by show t.length < 65536; omega) h1
  exact app_eq h3 h2
theorem val_pre {v u : Val} {c d : List UInt8} (hv : v.In ∧ v.right = 0) (hu : u.In ∧ u.right = 0) (h : v.put ++ c = u.put ++ d) : v = u ∧ c = d := by
  rw [show v.put = v.bytes from if_pos hv.2, show u.put = u.bytes from if_pos hu.2] at h
  obtain ⟨h1, h2⟩ := gotVal_ok hv.1 hv.2 (l := v.bytes ++ c) (p := 0) (s := c) rfl
  obtain ⟨h3, h4⟩ := gotVal_ok hu.1 hu.2 (l := u.bytes ++ d) (p := 0) (s := d) rfl
  rw [h, h3] at h1
  injection h1 with h5 h6
  refine ⟨h5.symm, ?_⟩
  rw [h, ← h6, h4] at h2
  exact h2.symm
theorem vals_inj : ∀ {vs us : List Val} {c d : List UInt8}, vs.length = us.length → (∀ v ∈ vs, v.In ∧ v.right = 0) → (∀ v ∈ us, v.In ∧ v.right = 0) → vs.flatMap Val.put ++ c = us.flatMap Val.put ++ d → vs = us ∧ c = d
  | [], [], _, _, _, _, _, h => ⟨rfl, h⟩
  | [], _ :: _, _, _, hl, _, _, _ => by simp at hl
  | _ :: _, [], _, _, hl, _, _, _ => by simp at hl
  | v :: vs, u :: us, c, d, hl, hv, hu, h => by
    rw [List.flatMap_cons, List.flatMap_cons, List.append_assoc, List.append_assoc] at h
    obtain ⟨h1, h2⟩ := val_pre (hv v (List.mem_cons_self ..)) (hu u (List.mem_cons_self ..)) h
    obtain ⟨h3, h4⟩ := vals_inj (by simpa using hl) (fun x hx => hv x (List.mem_cons_of_mem _ hx)) (fun x hx => hu x (List.mem_cons_of_mem _ hx)) h2
    exact ⟨by rw [h1, h3], h4⟩
theorem fm_inj {α : Type} {f : α → List UInt8} {k : Nat} (hk : ∀ x, (f x).length = k) : ∀ {l m : List α} {c d : List UInt8}, l.length = m.length → (∀ x ∈ l, ∀ y ∈ m, f x = f y → x = y) → l.flatMap f ++ c = m.flatMap f ++ d → l = m ∧ c = d
  | [], [], _, _, _, _, h => ⟨rfl, h⟩
  | [], _ :: _, _, _, hl, _, _ => by simp at hl
  | _ :: _, [], _, _, hl, _, _ => by simp at hl
  | x :: l, y :: m, c, d, hl, hf, h => by
    rw [List.flatMap_cons, List.flatMap_cons, List.append_assoc, List.append_assoc] at h
    obtain ⟨h1, h2⟩ := app_eq (by rw [hk, hk]) h
    obtain ⟨h3, h4⟩ := fm_inj hk (by simpa using hl) (fun x hx y hy => hf x (List.mem_cons_of_mem _ hx) y (List.mem_cons_of_mem _ hy)) h2
    exact ⟨by rw [hf x (List.mem_cons_self ..) y (List.mem_cons_self ..) h1, h3], h4⟩
theorem u64_inj {m n : Int} (hm : -9223372036854775808 ≤ m ∧ m ≤ 9223372036854775807) (hn : -9223372036854775808 ≤ n ∧ n ≤ 9223372036854775807) (h : u64 m = u64 n) : m = n := by
  rw [← i64_u64 hm, ← i64_u64 hn, h]
theorem flagB_inj {a b : Bool} (h : flagB a = flagB b) : a = b := by cases a <;> cases b <;> first | rfl | (exact absurd h (by decide))
theorem lifeN_lt (op cl : List (List UInt8)) (nm : List UInt8) : lifeN op cl nm < 256 := by unfold lifeN; split; decide; split <;> decide
/-- two States are the same bytes just if all that is looked at is the same -/
theorem st_inj {t t' : List UInt8} {n n' : Int} {c c' : List UInt8} {vs vs' : List Val} {lf lf' : List Nat} {mk mk' : List Bool} (ht : t.length ≤ 64) (ht' : t'.length ≤ 64) (hn : -9223372036854775808 ≤ n ∧ n ≤ 9223372036854775807) (hn' : -9223372036854775808 ≤ n' ∧ n' ≤ 9223372036854775807) (hc : c.length = 32) (hc' : c'.length = 32)
    (hv : ∀ v ∈ vs, v.In ∧ v.right = 0) (hv' : ∀ v ∈ vs', v.In ∧ v.right = 0) (hvl : vs.length = vs'.length) (hl : lf.length = lf'.length) (hm : mk.length = mk'.length) (h1 : ∀ x ∈ lf, x < 256) (h1' : ∀ x ∈ lf', x < 256)
    (h : stB t n c vs lf mk = stB t' n' c' vs' lf' mk') : t = t' ∧ n = n' ∧ c = c' ∧ vs = vs' ∧ lf = lf' ∧ mk = mk' := by
  unfold stB at h
  simp only [List.append_assoc] at h
  obtain ⟨e1, h⟩ := nameB_inj ht ht' h
  obtain ⟨e2, h⟩ := app_eq (by rw [be_length, be_length]) h
  obtain ⟨e3, h⟩ := app_eq (by rw [hc, hc']) h
  obtain ⟨_, h⟩ := app_eq (by rw [be_length, be_length]) h
  obtain ⟨e4, h⟩ := vals_inj hvl hv hv' h
  obtain ⟨_, h⟩ := app_eq (by rw [be_length, be_length]) h
  obtain ⟨e5, h⟩ := fm_inj (f := be 1) (k := 1) (fun x => be_length 1 x) hl (fun x hx y hy e => be_inj (K := 1) (h1 x hx) (h1' y hy) e) h
  obtain ⟨_, h⟩ := app_eq (by rw [be_length, be_length]) h
  rw [← List.append_nil (mk.flatMap flagB), ← List.append_nil (mk'.flatMap flagB)] at h
  obtain ⟨e6, _⟩ := fm_inj (f := flagB) (k := 1) (fun _ => rfl) hm (fun x _ y _ e => flagB_inj e) h
  exact ⟨e1, u64_inj hn hn' (be_inj (K := 8) (u64_lt n) (u64_lt n') e2), e3, e4, e5, e6⟩
/-- no State begins as a Table does -/
theorem st_head {t : List UInt8} {n : Int} {c : List UInt8} {vs : List Val} {lf : List Nat} {mk : List Bool} (h1 : 1 ≤ t.length) (h2 : t.length ≤ 64) : ∃ s, stB t n c vs lf mk = 0 :: UInt8.ofNat t.length :: s ∧ (UInt8.ofNat t.length) ≠ 0 := by
  refine ⟨t ++ be 8 (u64 n) ++ c ++ be 2 vs.length ++ vs.flatMap Val.put ++ be 2 lf.length ++ lf.flatMap (be 1) ++ be 2 mk.length ++ mk.flatMap flagB, ?_, ?_⟩
  · have e : be 2 t.length = [0, UInt8.ofNat t.length] := by
      show [UInt8.ofNat (t.length / 256 ^ 1), UInt8.ofNat (t.length / 256 ^ 0)] = _
      rw [Nat.pow_one, Nat.pow_zero, Nat.div_one, Nat.div_eq_of_lt (by omega)]
      rfl
    unfold stB nameB
    rw [e]
    simp only [List.append_assoc, List.cons_append, List.nil_append]
  · intro h
    have := congrArg UInt8.toNat h
    rw [UInt8.toNat_ofNat'] at this
    have h0 : (0 : UInt8).toNat = 0 := rfl
    rw [h0] at this
    omega
end Go.Proofs.YtepbmdlgdaedpaaGreatDoor
