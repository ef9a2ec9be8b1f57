/- The walks of Room, Lists. -/
import Derived.Test.YtppmhlkonemebaaDoorOf
namespace Go.Proofs.YtppmhlkonemebaaDoor
open Go.RowKit Go.Dk

def roomI (left n : Int) : Int := if left < 0 ∨ left < n then -1 else left - n
set_option maxRecDepth 100000 in
theorem room_any (w : World) (left n : Int) (h1 : -9223372036854775808 ≤ left ∧ left ≤ 9223372036854775807) (h2 : 0 ≤ n ∧ n ≤ 9223372036854775807) : Calls Tryd.prog 12 #[.int .i64 left, .int .i64 n] w fun e w' => e = .returned (.int .i64 (roomI left n)) ∧ w' = w := by
  by_cases c1 : left < 0
  · go_enter Tryd.func12, Tryd.ntmps12
    go_wp2
    go_ret
    unfold roomI
    rw [if_pos (.inl c1)]
    exact ⟨rfl, rfl⟩
  · by_cases c2 : left < n
    · have c1' : 0 ≤ left := by omega
      go_enter Tryd.func12, Tryd.ntmps12
      go_wp2
      go_ret
      unfold roomI
      rw [if_pos (.inr c2)]
      exact ⟨rfl, rfl⟩
    · have c1' : 0 ≤ left := by omega
      have c2' : n ≤ left := by omega
      have e1 : IntKind.i64.wrap (left - n) = left - n := IntWalk.i64_in _ (by omega)
      go_enter Tryd.func12, Tryd.ntmps12
      go_wp2
      go_ret
      unfold roomI
      rw [if_neg (by omega)]
      exact ⟨rfl, rfl⟩

/-- a slice of slices of bytes reads as these -/
def Pieces (w : World) (pa : Option Addr) (ps : List Part) : Prop :=
  (ps ≠ [] → ∃ b o, pa = some ⟨b, o, none⟩ ∧ b < w.heap.size ∧ ∀ i A c l, ps[i]? = some (A, c, l) → w.cell? ⟨b, o + i, none⟩ = some (.slice A l.length c)) ∧
  ∀ A c l, (A, c, l) ∈ ps → l.length ≤ c ∧ Bts w A l
def listsI : Int → List Part → Int
  | left, [] => left
  | left, p :: ps => if left < 0 then left else listsI (roomI (roomI left 1) p.2.2.length) ps
theorem listsI_neg (left : Int) (ps : List Part) (h : left < 0) : listsI left ps = left := by
  cases ps with
  | nil => rfl
  | cons p ps => simp [listsI, h]
theorem listsI_step {left : Int} {ps : List Part} {i : Nat} {A : Option Addr} {c : Nat} {l : List UInt8} (h : ps[i]? = some (A, c, l)) (h0 : 0 ≤ left) :
    listsI left (ps.drop i) = listsI (roomI (roomI left 1) l.length) (ps.drop (i + 1)) := by
  have hi : i < ps.length := (List.getElem?_eq_some_iff.1 h).1
  have he : ps[i] = (A, c, l) := (List.getElem?_eq_some_iff.1 h).2
  rw [List.drop_eq_getElem_cons hi, he]
  simp only [listsI]
  rw [if_neg (by omega)]
theorem roomI_or (left n : Int) : roomI left n = -1 ∨ (roomI left n = left - n ∧ 0 ≤ left - n) := by unfold roomI; split <;> omega
theorem listsI_le (left : Int) (ps : List Part) (h : 0 ≤ listsI left ps) : (flat ps).length + (ps.length : Int) ≤ left := by
  induction ps generalizing left with
  | nil => simpa [listsI, flat] using h
  | cons p ps ih =>
    simp only [listsI] at h
    split at h
    · omega
    · have h1 := ih _ h
      have h2 : (flat (p :: ps)).length = p.2.2.length + (flat ps).length := by simp [flat]
      rw [h2]
      simp only [List.length_cons]
      have h3 := roomI_or left 1
      have h4 := roomI_or (roomI left 1) p.2.2.length
      omega

set_option maxRecDepth 100000 in
set_option maxHeartbeats 1000000 in
theorem lists_any (w : World) (left : Int) (h1 : -9223372036854775808 ≤ left ∧ left ≤ 9223372036854775807) (pa : Option Addr) (ps : List Part) (c n : Nat) (hn : n = ps.length) (hnb : n ≤ 9223372036854775807) (hP : Pieces w pa ps)
    (hl : ∀ A c l, (A, c, l) ∈ ps → l.length ≤ 9223372036854775807) :
    Calls Tryd.prog 23 #[.int .i64 left, .slice pa n c] w fun e w' => e = .returned (.int .i64 (listsI left ps)) ∧ w' = w := by
  have Hn := Lib.hid hn
  obtain ⟨hP1, _⟩ := hP
  clear hn
  go_enter Tryd.func23, Tryd.ntmps23
  go_wp2
  go_loopw [0, 5] (fun v p wr => ∃ (i : Nat) (lf : Int), i ≤ n ∧ v = .int .i64 lf ∧ p = .int .i64 i ∧ (-9223372036854775808 ≤ lf ∧ lf ≤ 9223372036854775807) ∧ Hid (listsI lf (ps.drop i) = listsI left ps) ∧ wr = w) (fun _ p _ => n - (intOf p).toNat)
  case atStart => exact ⟨0, left, by omega, rfl, rfl, h1, Lib.hid rfl, rfl⟩
  case round =>
    obtain ⟨i, lf, hi, rfl, rfl, hlf, Hlf, rfl⟩ := hrel
    by_cases hlt : i < n
    · have lt1 : (i : Int) < n := by omega
      by_cases hneg : lf < 0
      · go_wp2
        go_ret
        exact ⟨by rw [← Hlf.out, listsI_neg _ _ hneg]; rfl, rfl⟩
      · have hpos : 0 ≤ lf := by omega
        have e3 : IntKind.i64.wrap ((i : Int) + 1) = (i : Int) + 1 := IntWalk.i64_in _ (by omega)
        have hne : ps ≠ [] := fun e => by have h := Hn.out; rw [e] at h; simp at h; omega
        obtain ⟨b, o, rfl, hb, hcell⟩ := hP1 hne
        obtain ⟨⟨A, cA, l⟩, hp⟩ : ∃ q, ps[i]? = some q := ⟨_, List.getElem?_eq_getElem (by rw [← Hn.out]; exact hlt)⟩
        have Hc := Lib.hid (hcell i A cA l hp)
        have hll := hl A cA l (List.mem_of_getElem? hp)
        have Hst := Lib.hid (listsI_step hp hpos)
        have hr1 : -9223372036854775808 ≤ roomI lf 1 ∧ roomI lf 1 ≤ 9223372036854775807 := by unfold roomI; split <;> omega
        have hr2 : -9223372036854775808 ≤ roomI (roomI lf 1) l.length ∧ roomI (roomI lf 1) l.length ≤ 9223372036854775807 := by
          generalize roomI lf 1 = q at hr1
          unfold roomI; split <;> omega
        go_wp2_with (first
          | (go_at_call 12
             with_reducible refine (room_any wr lf 1 hlf (by decide)).mono ?_
             rintro e' w' ⟨rfl, rfl⟩)
          | (with_reducible refine at_load rfl ?_
             refine wpList_plain rfl (fun _ hK => wp_loadOld (v := .slice A l.length cA) rfl rfl Hc.out no24 (hK _ _ ?_)); clear hK)
          | (go_at_call 12
             with_reducible refine (room_any _ (roomI lf 1) (l.length : Int) hr1 (by omega)).mono ?_
             rintro e' w' ⟨rfl, rfl⟩))
        go_roundw
        case rel => exact ⟨i + 1, _, by omega, rfl, by go_num, hr2, Lib.hid (by rw [← Hst.out, Hlf.out]), trivial⟩
        case measure => simp [intOf]; omega
    · obtain rfl : i = n := by omega
      have hd : ps.drop i = [] := List.drop_of_length_le (by rw [← Hn.out]; exact Nat.le_refl _)
      have hlast : listsI left ps = lf := by rw [← Hlf.out, hd]; rfl
      go_wp2
      go_ret
      exact ⟨by rw [hlast]; rfl, rfl⟩
end Go.Proofs.YtppmhlkonemebaaDoor
