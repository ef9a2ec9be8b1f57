/- DigestNames: the law 'DigestNames' returns true. -/
import Derived.Test.YtppmhlkonemebaaDoorCards
import Derived.Test.YtppmhlkonemebaaDoorTie
import Derived.Test.YtppmhlkonemebaaDoorOpen
import Derived.Test.YtppmhlkonemebaaDoorLawNames
import Derived.Deep.DeepHandedRow
import Derived.Lib.LaidTab
namespace Go.Proofs.YtppmhlkonemebaaDoor.digestNames
open Go.ChangeShapes Go.WideShapes Go.ChangeAt Go.RowKit Go.Dk

theorem own : ownKnob Tryd.prog.godebug = none := by kernel_rfl
theorem laidOut : laidOutB Tryd.prog = true := by kernel_rfl
theorem gTab : Tryd.prog.globalNamed "docket/digest.round" = some 0 := by kernel_rfl
theorem gTabType : (Tryd.prog.globals[0]?).map (·.type) = some 108 := by kernel_rfl
theorem cells108 : Tryd.prog.cellsOf 108 = 64 := by kernel_rfl
theorem cells80 : Tryd.prog.cellsOf 80 = 1 := by kernel_rfl
def zs : List Int := ks.map fun x : Nat => (x : Int)
theorem laid_eq : Rows.digestNamesRow.laid = ("docket/digest.round", Lib.tabData .u32 zs) :: [] := by kernel_rfl
theorem zs_at : ∀ i, i < 64 → zs.getD i 0 = (wAt ks i : Nat) := by decide +kernel
/-- what the row's list gives: the rounds' numbers lie in the table -/
theorem table {W : World} (h : laidMetH Tryd.prog Rows.digestNamesRow.laid W) : Tab W := by
  have h' : laidMet Tryd.prog Rows.digestNamesRow.laid W := h
  rw [laid_eq] at h'
  have ht : Lib.TabIs Tryd.prog W "docket/digest.round" .u32 zs := Lib.tabIs_of_head (rest := []) gTab gTabType Tryd.underlying108 Tryd.underlying80 cells80 cells108 h'
  intro i hi
  rw [ht.cell gTab i (by rw [show zs.length = 64 by decide +kernel]; exact hi), zs_at i hi]

set_option maxRecDepth 100000 in
theorem contract (H : Type) (enc : TypeId × Value → H) (W : World) (base : Nat) (args : Array Value) (ds gs : List (DataW H)) (before : List MemPlace)
    (hval : ∀ (j : Nat) t v, Tryd.f8.params[j]? = some t → args[j]? = some v → Value.okWide Tryd.prog W .any base t v)
    (hW : DataW.Whole enc Tryd.prog Tryd.f8.params.toList Rows.digestNamesSpec.vars false W args.toList ds gs before) (hL : laidMetH Tryd.prog Rows.digestNamesRow.laid W) :
    Calls Tryd.prog 8 args W fun e W' => ∃ v, e = .returned v ∧ Rows.digestNamesSpec.post enc Tryd.prog Tryd.f8 false true false false W args v W' := by
  have hW' := hW
  obtain ⟨p, q, hA0, hV, rfl, hfz, hnd⟩ := hW
  have hA : DataW.TrodAll enc Tryd.prog W 0 (fun _ => true) true Tryd.f8.params.toList args.toList ds p := hA0
  rw [Tryd.params8] at hA hval
  obtain ⟨hargs, rfl, rfl⟩ := trodAll_nil hA
  obtain rfl : args = #[] := by cases args; simp_all
  obtain ⟨rfl, rfl⟩ := trodVars_none hV
  clear hA0
  refine (law_names W (table hL)).mono fun e W' ⟨he, hat⟩ => ?_
  have bel : Below W.heap.size W W' := hat.below (fun _ h => by cases h)
  subst he
  exact ⟨_, rfl, _, _, _, [], _, [], hW', trodAll_mk1 (shut_bool Tryd.underlying4 _), trodAll_mk0, rfl, bel.frame _, fun h => by cases h⟩

/-- the cells that a table's text lays -/
def litCells : DataW Unit → Array Value
  | .agg l => (l.map fun | .lit (.int k n) => .int k n | _ => undef).toArray
  | _ => #[]
def lay (h : Array Obj) (g : Nat) (d : DataW Unit) : Array Obj := h.modify g fun
  | .cells _ t frozen => .cells (litCells d) t frozen
  | o => o
/-- A world for the witness: the settled one, the tables holding what their text lays. -/
noncomputable def laidWorld (os : Os) : World :=
  { World.holding Tryd.prog os ⟨#[], #[], []⟩ with heap := lay (World.holding Tryd.prog os ⟨#[], #[], []⟩).heap 0 Rows.laid_docket_digest_round }
theorem laid_met (os : Os) : laidMet Tryd.prog Rows.digestNamesRow.laid ((laidWorld os).forCall (fun _ _ => 0) ⟨#[], #[], []⟩).memory :=
  laidMet_of_run' 8 (by kernel_rfl) (by kernel_rfl)
theorem reads (os : Os) {H : Type} (enc : TypeId × Value → H) : ∃ places, DataW.whole enc Tryd.prog ((laidWorld os).forCall (fun _ _ => 0) ⟨#[], #[], []⟩).memory Tryd.f8.params.toList Rows.digestNamesSpec.vars false (#[] : Array Value).toList 8 = some ([], [], places) :=
  ⟨[], by kernel_rfl⟩

set_option maxRecDepth 100000 in
theorem lifted (os : Os) (started : os.Started) (H : Type) (enc : TypeId × Value → H) (F : Stop.Interp) :
    ReturnsInHanded {} Tryd.checked os 8 .any ((OpenSpec.ofChange Rows.digestNamesSpec).preRow enc Tryd.prog Tryd.f8 Rows.digestNamesRow.domain false Rows.digestNamesRow.laid) (((OpenSpec.ofChange Rows.digestNamesSpec).at F).post enc Tryd.prog Tryd.f8 false true false false) := by
  obtain ⟨places, hx⟩ := reads os enc
  refine returnsInHanded_of_row (C := Tryd.checked) (s := OpenSpec.ofChange Rows.digestNamesSpec) own started (by kernel_rfl) Tryd.func8
    (witness_row_at (enc := enc) (C := Tryd.checked) false (laidWorld os) #[] rfl (by kernel_rfl) (by kernel_rfl) (by kernel_rfl)
      (OpenSpec.preRow_of_cond 8 hx (by kernel_rfl) (fun k hk => by cases hk) (by kernel_rfl) (laid_met os))) ?_
  intro W base args ds gs before hval hW _ _ _ hL _ _
  exact contract H enc W base args ds gs before hval hW hL

theorem said : Rows.DigestNamesSaid :=
  OpenClaim.holds_of_cond 8 Tryd.f8 rfl rfl rfl rfl rfl rfl rfl ⟨rfl, rfl, rfl, rfl, rfl⟩ rfl rfl rfl rfl rfl (by kernel_rfl) Tryd.func8 (by kernel_rfl)
    (of_decide_eq_true (by kernel_rfl)) (by unfold Func.isWrapper; first | (rw [if_pos (by decide +kernel)]; kernel_rfl) | (rw [if_neg (by decide +kernel)]; exact ⟨rfl, rfl⟩))
    (fun os started H enc _ F => by rw [OpenClaim.pre_eq_preRow]; exact lifted os started H enc F)

/-- No parameter wants a stand-in; the program's own looks are off. -/
theorem plain (f : FuncId) (fn : Func) (hf : Tryd.pinned.checked.prog.funcNamed "docket/docketlaw2.DigestNames" = some f) (hfn : Tryd.pinned.checked.prog.funcs[f]? = some fn) :
    false = Tryd.pinned.checked.prog.looks [] ∧ ∀ (j : Nat) t, fn.params[j]? = some t → Tryd.pinned.checked.prog.wantsStandIn t = false := by
  obtain rfl : f = 8 := Option.some.inj ((show Tryd.prog.funcNamed "docket/docketlaw2.DigestNames" = some 8 by kernel_rfl).symm.trans hf) |>.symm
  obtain rfl : fn = Tryd.f8 := (Option.some.inj (Tryd.func8.symm.trans hfn)).symm
  refine ⟨by kernel_rfl, fun j t ht => ?_⟩
  rw [Tryd.params8] at ht
  simp at ht

theorem proved : Rows.DigestNamesCardSaid :=
  Claim7.holds_tied_plain_at .later [] _ _ _ _ said (fun _ h => by cases h) (by kernel_rfl) (fun _ h => by cases h) digestNames_row_tie rfl ⟨rfl, rfl⟩ (by kernel_rfl) rfl plain (by kernel_rfl)
end Go.Proofs.YtppmhlkonemebaaDoor.digestNames
