/- What bytes tell of an event are numbers of the machine; what is cut of an event's bytes or laid behind them is none: plain Lean. -/
import Derived.Test.YtepbmdlgdaedpaaGreatDoorEv6
import Derived.Test.YtepbmdlgdaedpaaGreatDoorEvW
namespace Go.Proofs.YtepbmdlgdaedpaaGreatDoor
open Go.RowKit Go.Dk

theorem noVal_in : noVal.In := ⟨⟨by decide, by decide⟩, ⟨by decide, by decide⟩⟩
theorem small_in {k : Nat} (h : k < 256) : -9223372036854775808 ≤ (k : Int) ∧ (k : Int) ≤ 9223372036854775807 := by omega
theorem zero_in : -9223372036854775808 ≤ (0 : Int) ∧ (0 : Int) ≤ 9223372036854775807 := by decide
theorem got8_in (l : List UInt8) (p y : Nat) : -9223372036854775808 ≤ i64 (got (numR 8) 0 l p y).v ∧ i64 (got (numR 8) 0 l p y).v ≤ 9223372036854775807 := i64_in (num_small8 8 l p y)
theorem gotBody_in {k : Nat} (hk : k < 256) (l : List UInt8) (p y : Nat) : (gotBody k l p y).v.In := by
  unfold gotBody
  split
  · exact ⟨small_in hk, got8_in l p y⟩
  split
  · refine ⟨small_in hk, ?_⟩
    show _ ≤ (if _ then (1 : Int) else 0) ∧ (if _ then (1 : Int) else 0) ≤ _
    split <;> omega
  split
  · exact ⟨small_in hk, zero_in⟩
  split
  · exact ⟨small_in hk, zero_in⟩
  · exact ⟨small_in hk, zero_in⟩
theorem ite_in {p : Prop} [Decidable p] {a b : Val} (ha : a.In) (hb : b.In) : (if p then a else b).In := by split <;> assumption
theorem gotVal_in (l : List UInt8) (p y : Nat) : (gotVal l p y).v.In := by
  unfold gotVal
  show (if _ then (gotBody _ l _ _).v else noVal).In
  exact ite_in (gotBody_in (k := (got (numR 1) 0 l p y).v) (num_small8 1 l p y) l (got (numR 1) 0 l p y).p (got (numR 1) 0 l p y).y) noVal_in
theorem gotVals_in (l : List UInt8) : ∀ n p y, ∀ v ∈ (gotVals l n p y).v, v.In
  | 0, _, _, v, h => by cases h
  | n + 1, p, y, v, h => by
    unfold gotVals at h
    split at h
    · rcases List.mem_cons.1 h with rfl | h
      · exact gotVal_in l p _
      · exact gotVals_in l n _ _ v h
    · cases h
theorem gotIfVal_in {b : Bool} {p y : Nat} {g : Got Val} (h : g.v.In) : (gotIf b noVal p y g).v.In := by
  unfold gotIf
  split
  · exact h
  · exact noVal_in
theorem gotEv_in (raw : List UInt8) : (gotEv raw).v.In := by
  unfold gotEv
  simp only [gotK]
  exact ⟨small_in (num_small8 1 raw 0 0), got8_in _ _ _, got8_in _ _ _, gotIfVal_in (gotVal_in _ _ _), gotVals_in raw _ _ _, raw32_len _ _⟩
theorem ev_cut {e : Ev} (hi : e.In) (h : encE e = 0) {m : Nat} (hm : m < (encB e).length) : decE ((encB e).take m) = 8 := dec_cut hi h gotEv_in hm
theorem ev_more {e : Ev} (hi : e.In) (h : encE e = 0) (c : UInt8) : decE (encB e ++ [c]) = 8 := dec_more hi h gotEv_in
end Go.Proofs.YtepbmdlgdaedpaaGreatDoor
