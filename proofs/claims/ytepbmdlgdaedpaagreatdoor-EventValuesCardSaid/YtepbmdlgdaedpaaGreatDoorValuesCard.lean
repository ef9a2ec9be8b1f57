/- EventValues: the law 'EventValues' returns true, whatever the input. -/
import Derived.Test.YtepbmdlgdaedpaaGreatDoorCards
import Derived.Test.YtepbmdlgdaedpaaGreatDoorTie
import Derived.Test.YtepbmdlgdaedpaaGreatDoorOpenSz
import Derived.Test.YtepbmdlgdaedpaaGreatDoorLawValues
import Derived.Deep.DeepHandedRow
import Derived.Lib.LaidTab
namespace Go.Proofs.YtepbmdlgdaedpaaGreatDoor.eventValues
open Go.ChangeShapes Go.WideShapes Go.ChangeAt Go.RowKit Go.Dk

theorem own : ownKnob Tryz.prog.godebug = none := by kernel_rfl
theorem laidOut : laidOutB Tryz.prog = true := by kernel_rfl
theorem gTab : Tryz.prog.globalNamed "docket/text.reserved" = some 1 := by kernel_rfl
theorem gTabType : (Tryz.prog.globals[1]?).map (·.type) = some 240 := by kernel_rfl
theorem cellsT : Tryz.prog.cellsOf 240 = 35 := by kernel_rfl
theorem cellsS : Tryz.prog.cellsOf 9 = 1 := by kernel_rfl
theorem laid_eq : Rows.eventValuesRow.laid = ("docket/text.reserved", .agg (reserved.map fun z => .lit (.string z))) :: [] := by kernel_rfl
/-- what the row's list gives: the reserved words lie in the table -/
theorem table {W : World} (h : laidMetH Tryz.prog Rows.eventValuesRow.laid W) : TabS W := by
  have h' : laidMet Tryz.prog Rows.eventValuesRow.laid W := h
  rw [laid_eq] at h'
  exact tabS_of gTab gTabType Tryz.underlying240 Tryz.underlying9 cellsS cellsT h'

set_option maxRecDepth 100000 in
theorem contract (H : Type) (enc : TypeId × Value → H) (W : World) (base : Nat) (args : Array Value) (ds gs : List (DataW H)) (before : List MemPlace)
    (hval : ∀ (j : Nat) t v, Tryz.f10.params[j]? = some t → args[j]? = some v → Value.okWide Tryz.prog W .any base t v)
    (hW : DataW.Whole enc Tryz.prog Tryz.f10.params.toList Rows.eventValuesSpec.vars false W args.toList ds gs before)
    (hsz : (DataW.weightsEach Tryz.prog (Tryz.f10.params.toList ++ (OpenSpec.ofChange Rows.eventValuesSpec).bare.plain.varTypes Tryz.prog) (ds ++ gs)).all (· ≤ reachBytes) = true) (hL : laidMetH Tryz.prog Rows.eventValuesRow.laid W) :
    Calls Tryz.prog 10 args W fun e W' => ∃ v, e = .returned v ∧ Rows.eventValuesSpec.post enc Tryz.prog Tryz.f10 false true false false W args v W' := by
  have hW' := hW
  obtain ⟨p, q, hA0, hV, rfl, hfz, hnd⟩ := hW
  have hA : DataW.TrodAll enc Tryz.prog W 0 (fun _ => true) true Tryz.f10.params.toList args.toList ds p := hA0
  rw [Tryz.params10] at hA hval hsz
  obtain ⟨v0, vs0, d0, ds0, p0, q0, hargs, rfl, rfl, h0, r0⟩ := trodAll_cons hA
  obtain ⟨v1, vs1, d1, ds1, p1, q1, hargs1, rfl, rfl, h1, r1⟩ := trodAll_cons r0
  subst hargs1
  obtain ⟨v2, vs2, d2, ds2, p2, q2, hargs2, rfl, rfl, h2, r2⟩ := trodAll_cons r1
  subst hargs2
  obtain ⟨rfl, rfl, rfl⟩ := trodAll_nil r2
  obtain rfl : args = #[v0, v1, v2] := by cases args; simp_all
  obtain ⟨rfl, rfl⟩ := trodVars_none hV
  have k0 := h0
  have lt0 : ∀ x ∈ p0, x.block < W.heap.size := by obtain ⟨m, hm⟩ := k0; exact DataW.trod_lt m _ _ _ hm
  have k1 := h1
  have lt1 : ∀ x ∈ p1, x.block < W.heap.size := by obtain ⟨m, hm⟩ := k1; exact DataW.trod_lt m _ _ _ hm
  have k2 := h2
  have lt2 : ∀ x ∈ p2, x.block < W.heap.size := by obtain ⟨m, hm⟩ := k2; exact DataW.trod_lt m _ _ _ hm
  obtain ⟨Al1, l1, cl1, rfl, hcl1, hll1, hrl1⟩ := open_bytesZ (hval 0 27 v0 rfl rfl) h0 (small_of hsz (j := 0) rfl rfl)
  obtain ⟨va, rfl, hva, hsva⟩ := open_valZ (hval 1 25 v1 rfl rfl) h1 (small_of hsz (j := 1) rfl rfl)
  obtain ⟨Araw, raw, craw, rfl, hcraw, hlraw, hrraw⟩ := open_bytesZ (hval 2 27 v2 rfl rfl) h2 (small_of hsz (j := 2) rfl rfl)
  clear hA0
  refine (law_values W Al1 l1 cl1 va Araw raw craw (table hL) hva hrl1 hcl1 hll1 hrraw hcraw hlraw hsva).mono fun e W' ⟨he, hat⟩ => ?_
  have bel : Below W.heap.size W W' := hat.below (fun _ h => by cases h)
  subst he
  exact ⟨_, rfl, _, _, _, [], _, [], hW', trodAll_mk1 (shut_bool Tryz.underlying4 _), (trodAll_cons_mk (Below.trod laidOut (by kernel_rfl) (of_decide_eq_true (by kernel_rfl)) k0 bel lt0) (trodAll_cons_mk (Below.trod laidOut (by kernel_rfl) (of_decide_eq_true (by kernel_rfl)) k1 bel lt1) (trodAll_cons_mk (Below.trod laidOut (by kernel_rfl) (of_decide_eq_true (by kernel_rfl)) k2 bel lt2) trodAll_mk0))), rfl, bel.frame _, fun h => by cases h⟩

/-- the cells that a table's text lays -/
def litCells : DataW Unit → Array Value
  | .agg l => (l.map fun | .lit (.int k n) => .int k n | .lit (.string l) => .string ⟨l.toArray⟩ | _ => undef).toArray
  | _ => #[]
def lay (h : Array Obj) (g : Nat) (d : DataW Unit) : Array Obj := h.modify g fun
  | .cells _ t frozen => .cells (litCells d) t frozen
  | o => o
/-- A world for the witness: the settled one, the table holding what its text lays. -/
noncomputable def laidWorld (os : Os) : World :=
  { World.holding Tryz.prog os ⟨#[], #[], []⟩ with heap := lay (World.holding Tryz.prog os ⟨#[], #[], []⟩).heap 1 Rows.laid_docket_text_reserved }
def argv : Array Value := #[.slice none 0 0, .agg (VA.cells ⟨⟨0, 0, [], []⟩, none, 0⟩).toArray, .slice none 0 0]
theorem laid_met (os : Os) : laidMet Tryz.prog Rows.eventValuesRow.laid ((laidWorld os).forCall (fun _ _ => 0) ⟨#[], argv, []⟩).memory :=
  laidMet_of_run' 8 (by kernel_rfl) (by kernel_rfl)
theorem reads (os : Os) {H : Type} (enc : TypeId × Value → H) : ∃ places, DataW.whole enc Tryz.prog ((laidWorld os).forCall (fun _ _ => 0) ⟨#[], argv, []⟩).memory Tryz.f10.params.toList Rows.eventValuesSpec.vars false argv.toList 8 = some ([.nil, .agg [.lit (.int .i64 0), .lit (.int .i64 0), .lit (.string []), .nil], .nil], [], places) :=
  ⟨[], by kernel_rfl⟩

set_option maxRecDepth 100000 in
theorem lifted (os : Os) (started : os.Started) (H : Type) (enc : TypeId × Value → H) (F : Stop.Interp) :
    ReturnsInHanded {} Tryz.checked os 10 .any ((OpenSpec.ofChange Rows.eventValuesSpec).preRow enc Tryz.prog Tryz.f10 Rows.eventValuesRow.domain false Rows.eventValuesRow.laid) (((OpenSpec.ofChange Rows.eventValuesSpec).at F).post enc Tryz.prog Tryz.f10 false true false false) := by
  obtain ⟨places, hx⟩ := reads os enc
  refine returnsInHanded_of_row (C := Tryz.checked) (s := OpenSpec.ofChange Rows.eventValuesSpec) own started (by kernel_rfl) Tryz.func10
    (witness_row_at (enc := enc) (C := Tryz.checked) false (laidWorld os) argv rfl (by kernel_rfl) (by kernel_rfl) (by kernel_rfl)
      (OpenSpec.preRow_of_cond 8 hx (by kernel_rfl) (fun k hk => by cases hk) (by kernel_rfl) (laid_met os))) ?_
  intro W base args ds gs before hval hW _ _ hsz hL _ _
  exact contract H enc W base args ds gs before hval hW hsz hL

theorem said : Rows.EventValuesSaid :=
  OpenClaim.holds_of_cond 10 Tryz.f10 rfl rfl rfl rfl rfl rfl rfl ⟨rfl, rfl, rfl, rfl, rfl⟩ rfl rfl rfl rfl rfl (by kernel_rfl) Tryz.func10 (by kernel_rfl)
    (of_decide_eq_true (by kernel_rfl)) (by unfold Func.isWrapper; first | (rw [if_pos (by decide +kernel)]; kernel_rfl) | (rw [if_neg (by decide +kernel)]; exact ⟨rfl, rfl⟩))
    (fun os started H enc _ F => by rw [OpenClaim.pre_eq_preRow]; exact lifted os started H enc F)

/-- No parameter wants a stand-in; the program's own looks are off. -/
theorem plain (f : FuncId) (fn : Func) (hf : Tryz.pinned.checked.prog.funcNamed "docket/docketlaw14.EventValues" = some f) (hfn : Tryz.pinned.checked.prog.funcs[f]? = some fn) :
    false = Tryz.pinned.checked.prog.looks [] ∧ ∀ (j : Nat) t, fn.params[j]? = some t → Tryz.pinned.checked.prog.wantsStandIn t = false := by
  obtain rfl : f = 10 := Option.some.inj ((show Tryz.prog.funcNamed "docket/docketlaw14.EventValues" = some 10 by kernel_rfl).symm.trans hf) |>.symm
  obtain rfl : fn = Tryz.f10 := (Option.some.inj (Tryz.func10.symm.trans hfn)).symm
  refine ⟨by kernel_rfl, fun j t ht => ?_⟩
  rw [Tryz.params10] at ht
  have hm := Array.mem_of_getElem? ht
  simp only [List.mem_toArray, List.mem_cons, List.not_mem_nil, or_false] at hm
  rcases hm with rfl | rfl | rfl
  · exact (show Tryz.prog.wantsStandIn 27 = false by kernel_rfl)
  · exact (show Tryz.prog.wantsStandIn 25 = false by kernel_rfl)
  · exact (show Tryz.prog.wantsStandIn 27 = false by kernel_rfl)

theorem proved : Rows.EventValuesCardSaid :=
  Claim7.holds_tied_plain_at .later [] _ _ _ _ said (fun _ h => by cases h) (by kernel_rfl) (fun _ h => by cases h) eventValues_row_tie rfl ⟨rfl, rfl⟩ (by kernel_rfl) rfl plain (by kernel_rfl)
end Go.Proofs.YtepbmdlgdaedpaaGreatDoor.eventValues
