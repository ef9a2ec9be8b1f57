/- EventDecodes: the law 'EventDecodes' returns true, whatever the input. -/
import Derived.Test.YtepbmdlgdaedpaaGreatDoorCards
import Derived.Test.YtepbmdlgdaedpaaGreatDoorTie
import Derived.Test.YtepbmdlgdaedpaaGreatDoorEvI
import Derived.Test.YtepbmdlgdaedpaaGreatDoorOpenSz
import Derived.Test.YtepbmdlgdaedpaaGreatDoorLawDecodes
import Derived.Deep.DeepHandedRow
import Derived.Lib.LaidTab
/- EventDecodes: the law 'EventDecodes' returns true, whatever the input. -/
namespace Go.Proofs.YtepbmdlgdaedpaaGreatDoor.eventDecodes
open Go.ChangeShapes Go.WideShapes Go.ChangeAt Go.RowKit Go.Dk
theorem own:ownKnob Tryz.prog.godebug=none:=af
theorem laidOut:laidOutB Tryz.prog=true:=af
theorem EO:Tryz.prog.cellsOf 240=35:=af
theorem cellsS:Tryz.prog.cellsOf 9=1:=af
theorem yY:Rows.eventDecodesRow.laid=("docket/docketref9.reserved",.agg (reserved.map fun z=> .lit (.string z)))::("docket/text.reserved",.agg (reserved.map fun z=> .lit (.string z)))::[]:=af
theorem gR:Tryz.prog.globalNamed "docket/docketref9.reserved" = some 0:=af
theorem gtR:(Tryz.prog.globals[0]?).map (·.type)=some 240:=af
theorem tR {W:World} (h:laidMetH Tryz.prog Rows.eventDecodesRow.laid W):yD W:=by
  have h':laidMet Tryz.prog Rows.eventDecodesRow.laid W:=h
  rw [yY] at h'
  exact yJ gR gtR Ld Le cellsS EO h'
theorem gS:Tryz.prog.globalNamed "docket/text.reserved" = some 1:=af
theorem gtS:(Tryz.prog.globals[1]?).map (·.type)=some 240:=af
theorem tS {W:World} (h:laidMetH Tryz.prog Rows.eventDecodesRow.laid W):oH W:=by
  have h':laidMet Tryz.prog Rows.eventDecodesRow.laid W:=h
  rw [yY] at h'
  exact yJ gS gtS Ld Le cellsS EO (AA h')
set_option maxRecDepth 100000 in
theorem contract (H:Type) (enc:TypeId × Value→H) (W:World) (base:Nat) (args:Array Value) (ds gs:List (DataW H)) (before:List MemPlace)
    (hval:∀ (j:Nat) t v,Tryz.f4.params[j]? = some t→args[j]? = some v→Value.okWide Tryz.prog W .any base t v)
    (hW:DataW.Whole enc Tryz.prog Tryz.f4.params.toList Rows.eventDecodesSpec.vars false W args.toList ds gs before)
    (hsz:(DataW.weightsEach Tryz.prog (Tryz.f4.params.toList++(OpenSpec.ofChange Rows.eventDecodesSpec).bare.plain.varTypes Tryz.prog) (ds++gs)).all (· ≤ reachBytes)=true) (hL:laidMetH Tryz.prog Rows.eventDecodesRow.laid W) :
    Calls Tryz.prog 4 args W fun e W'=>∃ v,e= .returned v∧Rows.eventDecodesSpec.post enc Tryz.prog Tryz.f4 false true false false W args v W':=by
  have hW':=hW
  obtain ⟨p,q,hA0,hV,rfl,hfz,hnd⟩:=hW
  have hA:DataW.TrodAll enc Tryz.prog W 0 (fun _=>true) true Tryz.f4.params.toList args.toList ds p:=hA0
  rw [Tryz.params4] at hA hval hsz
  obtain ⟨v0,vs0,d0,ds0,p0,q0,hargs,rfl,rfl,h0,r0⟩:=trodAll_cons hA
  obtain ⟨v1,vs1,d1,ds1,p1,q1,hargs1,rfl,rfl,h1,r1⟩:=trodAll_cons r0
  subst hargs1
  obtain ⟨rfl,rfl,rfl⟩:=trodAll_nil r1
  obtain rfl:args = #[v0,v1]:=by cases args; simp_all
  obtain ⟨rfl,rfl⟩:=trodVars_none hV
  have k0:=h0
  have lt0:∀ x∈p0,x.block<W.heap.size:=by obtain ⟨m,hm⟩:=k0; exact DataW.trod_lt m _ _ _ hm
  have k1:=h1
  have lt1:∀ x∈p1,x.block<W.heap.size:=by obtain ⟨m,hm⟩:=k1; exact DataW.trod_lt m _ _ _ hm
  obtain ⟨Araw,raw,craw,rfl,hcraw,hlraw,hrraw⟩:=vM (hval 0 27 v0 rfl rfl) h0 (CB hsz (j:=0) rfl rfl)
  obtain ⟨at_,rfl,lat_,uat_⟩:=xP Lh (hval 1 3 v1 rfl rfl) h1
  replace lat_ : -9223372036854775808≤at_:=lat_
  replace uat_:at_≤9223372036854775807:=uat_
  clear hA0
  refine (vT W Araw raw craw at_ (tS hL) (tR hL) hrraw hcraw hlraw).mono fun e W' ⟨he,hat⟩=>?_
  have bel:Below W.heap.size W W':=hat.below (fun _ h=>by cases h)
  subst he
  exact ⟨_,rfl,_,_,_,[],_,[],hW',trodAll_mk1 (shut_bool Tryz.underlying4 _),(trodAll_cons_mk (Below.trod laidOut af (of_decide_eq_true af) k0 bel lt0) (trodAll_cons_mk (Below.trod laidOut af (of_decide_eq_true af) k1 bel lt1) trodAll_mk0)),rfl,bel.frame _,fun h=>by cases h⟩
def Dv:DataW Unit→Array Value
  | .agg l=>(l.map fun | .lit (.int k n)=> .int k n | .lit (.string l)=> .string ⟨l.toArray⟩ | _=>undef).toArray
  | _ => #[]
def lay (h:Array Obj) (g:Nat) (d:DataW Unit):Array Obj:=h.modify g fun
  | .cells _ t frozen=> .cells (Dv d) t frozen
  | o=>o
noncomputable def laidWorld (os:Os):World :=
  { World.holding Tryz.prog os ⟨#[],#[],[]⟩ with heap:=lay (lay (World.holding Tryz.prog os ⟨#[],#[],[]⟩).heap 0 Rows.laid_docket_docketref9_reserved) 1 Rows.laid_docket_text_reserved }
def argv:Array Value := #[.slice none 0 0,.int .i64 0]
theorem laid_met (os:Os):laidMet Tryz.prog Rows.eventDecodesRow.laid ((laidWorld os).forCall (fun _ _=>0) ⟨#[],argv,[]⟩).memory :=
  laidMet_of_run' 8 af af
theorem reads (os:Os) {H:Type} (enc:TypeId × Value→H):∃ places,DataW.whole enc Tryz.prog ((laidWorld os).forCall (fun _ _=>0) ⟨#[],argv,[]⟩).memory Tryz.f4.params.toList Rows.eventDecodesSpec.vars false argv.toList 8=some ([.nil,.lit (.int .i64 0)],[],places) :=
  ⟨[],af⟩
set_option maxRecDepth 100000 in
theorem lifted (os:Os) (started:os.Started) (H:Type) (enc:TypeId × Value→H) (F:Stop.Interp) :
    ReturnsInHanded {} Tryz.checked os 4 .any ((OpenSpec.ofChange Rows.eventDecodesSpec).preRow enc Tryz.prog Tryz.f4 Rows.eventDecodesRow.domain false Rows.eventDecodesRow.laid) (((OpenSpec.ofChange Rows.eventDecodesSpec).at F).post enc Tryz.prog Tryz.f4 false true false false):=by
  obtain ⟨places,hx⟩:=reads os enc
  refine returnsInHanded_of_row (C:=Tryz.checked) (s:=OpenSpec.ofChange Rows.eventDecodesSpec) own started af Tryz.func4
    (witness_row_at (enc:=enc) (C:=Tryz.checked) false (laidWorld os) argv rfl af af af
      (OpenSpec.preRow_of_cond 8 hx af (fun k hk=>by cases hk) af (laid_met os))) ?_
  intro W base args ds gs before hval hW _ _ hsz hL _ _
  exact contract H enc W base args ds gs before hval hW hsz hL
theorem said:Rows.EventDecodesSaid :=
  OpenClaim.holds_of_cond 4 Tryz.f4 rfl rfl rfl rfl rfl rfl rfl ⟨rfl,rfl,rfl,rfl,rfl⟩ rfl rfl rfl rfl rfl af Tryz.func4 af
    (of_decide_eq_true af) (by unfold Func.isWrapper; first | (rw [if_pos (by decide +kernel)]; kernel_rfl) | (rw [if_neg (by decide +kernel)]; exact ⟨rfl,rfl⟩))
    (fun os started H enc _ F=>by rw [OpenClaim.pre_eq_preRow]; exact lifted os started H enc F)
theorem plain (f:FuncId) (fn:Func) (hf:Tryz.pinned.checked.prog.funcNamed "docket/docketlaw14.EventDecodes" = some f) (hfn:Tryz.pinned.checked.prog.funcs[f]? = some fn) :
    false=Tryz.pinned.checked.prog.looks []∧∀ (j:Nat) t,fn.params[j]? = some t→Tryz.pinned.checked.prog.wantsStandIn t=false:=by
  obtain rfl:f=4:=Option.some.inj ((show Tryz.prog.funcNamed "docket/docketlaw14.EventDecodes" = some 4 by kernel_rfl).symm.trans hf) |>.symm
  obtain rfl:fn=Tryz.f4:=(Option.some.inj (Tryz.func4.symm.trans hfn)).symm
  refine ⟨ af,fun j t ht=>?_⟩
  rw [Tryz.params4] at ht
  have hm:=Array.mem_of_getElem? ht
  simp only [List.mem_toArray,List.mem_cons,List.not_mem_nil,or_false] at hm
  rcases hm with rfl | rfl
  · exact (show Tryz.prog.wantsStandIn 27=false by kernel_rfl)
  · exact (show Tryz.prog.wantsStandIn 3=false by kernel_rfl)
theorem proved:Rows.EventDecodesCardSaid :=
  Claim7.holds_tied_plain_at .later [] _ _ _ _ said (fun _ h=>by cases h) af (fun _ h=>by cases h) eventDecodes_row_tie rfl ⟨rfl,rfl⟩ af rfl plain af
end Go.Proofs.YtepbmdlgdaedpaaGreatDoor.eventDecodes
