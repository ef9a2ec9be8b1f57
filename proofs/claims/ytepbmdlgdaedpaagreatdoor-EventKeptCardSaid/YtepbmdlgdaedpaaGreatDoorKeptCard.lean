/- EventKept: the law 'EventKept' returns true, whatever the input. -/
import Derived.Test.YtepbmdlgdaedpaaGreatDoorCards
import Derived.Test.YtepbmdlgdaedpaaGreatDoorTie
import Derived.Test.YtepbmdlgdaedpaaGreatDoorLt
import Derived.Test.YtepbmdlgdaedpaaGreatDoorBook1
import Derived.Test.YtepbmdlgdaedpaaGreatDoorLawKept
import Derived.Deep.DeepHandedRow
import Derived.Lib.LaidTab
/- EventKept: the law 'EventKept' returns true, whatever the input. -/
namespace Go.Proofs.YtepbmdlgdaedpaaGreatDoor.eventKept
open Go.ChangeShapes Go.WideShapes Go.ChangeAt Go.RowKit Go.Dk
theorem own:ownKnob Tryz.prog.godebug=none:=af
theorem laidOut:laidOutB Tryz.prog=true:=af
theorem KL:Tryz.prog.cellsOf 240=35:=af
theorem Ii:Rows.eventKeptRow.laid=("docket/text.reserved",.agg (reserved.map fun z=> .lit (.string z)))::[]:=af
theorem gS:Tryz.prog.globalNamed "docket/text.reserved" = some 1:=af
theorem gtS:(Tryz.prog.globals[1]?).map (·.type)=some 240:=af
theorem tS {W:World} (h:laidMetH Tryz.prog Rows.eventKeptRow.laid W):mO W:=by
  have h':laidMet Tryz.prog Rows.eventKeptRow.laid W:=h
  rw [Ii] at h'
  exact G7 gS gtS Tryz.underlying240 Nz xB KL h'
set_option maxRecDepth 100000 in
theorem contract (H:Type) (enc:TypeId × Value→H) (W:World) (base:Nat) (args:Array Value) (ds gs:List (DataW H)) (before:List MemPlace)
    (hval:∀ (j:Nat) t v,Tryz.f9.params[j]? = some t→args[j]? = some v→Value.okWide Tryz.prog W .any base t v)
    (hW:DataW.Whole enc Tryz.prog Tryz.f9.params.toList Rows.eventKeptSpec.vars false W args.toList ds gs before)
    (hsz:(DataW.weightsEach Tryz.prog (Tryz.f9.params.toList++(OpenSpec.ofChange Rows.eventKeptSpec).bare.plain.varTypes Tryz.prog) (ds++gs)).all (· ≤ reachBytes)=true) (hL:laidMetH Tryz.prog Rows.eventKeptRow.laid W) :
    Calls Tryz.prog 9 args W fun e W'=>∃ v,e= .returned v∧Rows.eventKeptSpec.post enc Tryz.prog Tryz.f9 false true false false W args v W':=by
  have hW':=hW
  obtain ⟨p,q,hA0,hV,rfl,hfz,hnd⟩:=hW
  have hA:DataW.TrodAll enc Tryz.prog W 0 (fun _=>true) true Tryz.f9.params.toList args.toList ds p:=hA0
  rw [Tryz.params9] at hA hval hsz
  obtain ⟨v0,vs0,d0,ds0,p0,q0,hargs,rfl,rfl,h0,r0⟩:=trodAll_cons hA
  obtain ⟨v1,vs1,d1,ds1,p1,q1,hargs1,rfl,rfl,h1,r1⟩:=trodAll_cons r0
  subst hargs1
  obtain ⟨rfl,rfl,rfl⟩:=trodAll_nil r1
  obtain rfl:args = #[v0,v1]:=by cases args; simp_all
  obtain ⟨rfl,rfl⟩:=trodVars_none hV
  have k0:=h0
  have lt0:∀ x∈p0,x.block<W.heap.size:=by obtain ⟨m,hm⟩:=k0; exact DataW.trod_lt m _ _ _ hm
  have k1:=h1
  have lt1:∀ x∈p1,x.block<W.heap.size:=by obtain ⟨m,hm⟩:=k1; exact DataW.trod_lt m _ _ _ hm
  obtain ⟨Aes,es,ces,rfl,hRes,hoes,hses⟩:=uP (hval 0 62 v0 rfl rfl) h0 (wZ hsz (j:=0) rfl rfl)
  obtain ⟨Aps,ps,cps,rfl,hnps,hPps,hzps⟩:=uO (hval 1 63 v1 rfl rfl) h1 (wZ hsz (j:=1) rfl rfl)
  clear hA0
  refine (ED W Aes es ces Aps ps cps (tS hL) hRes hoes hses hPps hzps).mono fun e W' ⟨he,hat⟩=>?_
  have bel:Below W.heap.size W W':=hat.below (fun _ h=>by cases h)
  subst he
  exact ⟨_,rfl,_,_,_,[],_,[],hW',trodAll_mk1 (shut_bool Tryz.underlying4 _),(trodAll_cons_mk (Below.trod laidOut af (of_decide_eq_true af) k0 bel lt0) (trodAll_cons_mk (Below.trod laidOut af (of_decide_eq_true af) k1 bel lt1) trodAll_mk0)),rfl,bel.frame _,fun h=>by cases h⟩
def EC:DataW Unit→Array Value
  | .agg l=>(l.map fun | .lit (.int k n)=> .int k n | .lit (.string l)=> .string ⟨l.toArray⟩ | _=>undef).toArray
  | _ => #[]
def lay (h:Array Obj) (g:Nat) (d:DataW Unit):Array Obj:=h.modify g fun
  | .cells _ t frozen=> .cells (EC d) t frozen
  | o=>o
noncomputable def laidWorld (os:Os):World :=
  { World.holding Tryz.prog os ⟨#[],#[],[]⟩ with heap:=lay (World.holding Tryz.prog os ⟨#[],#[],[]⟩).heap 1 Rows.laid_docket_text_reserved }
def argv:Array Value := #[.slice none 0 0,.slice none 0 0]
theorem laid_met (os:Os):laidMet Tryz.prog Rows.eventKeptRow.laid ((laidWorld os).forCall (fun _ _=>0) ⟨#[],argv,[]⟩).memory :=
  laidMet_of_run' 8 af af
theorem reads (os:Os) {H:Type} (enc:TypeId × Value→H):∃ places,DataW.whole enc Tryz.prog ((laidWorld os).forCall (fun _ _=>0) ⟨#[],argv,[]⟩).memory Tryz.f9.params.toList Rows.eventKeptSpec.vars false argv.toList 8=some ([.nil,.nil],[],places) :=
  ⟨[],af⟩
set_option maxRecDepth 100000 in
theorem lifted (os:Os) (started:os.Started) (H:Type) (enc:TypeId × Value→H) (F:Stop.Interp) :
    ReturnsInHanded {} Tryz.checked os 9 .any ((OpenSpec.ofChange Rows.eventKeptSpec).preRow enc Tryz.prog Tryz.f9 Rows.eventKeptRow.domain false Rows.eventKeptRow.laid) (((OpenSpec.ofChange Rows.eventKeptSpec).at F).post enc Tryz.prog Tryz.f9 false true false false):=by
  obtain ⟨places,hx⟩:=reads os enc
  refine returnsInHanded_of_row (C:=Tryz.checked) (s:=OpenSpec.ofChange Rows.eventKeptSpec) own started af Tryz.func9
    (witness_row_at (enc:=enc) (C:=Tryz.checked) false (laidWorld os) argv rfl af af af
      (OpenSpec.preRow_of_cond 8 hx af (fun k hk=>by cases hk) af (laid_met os))) ?_
  intro W base args ds gs before hval hW _ _ hsz hL _ _
  exact contract H enc W base args ds gs before hval hW hsz hL
theorem said:Rows.EventKeptSaid :=
  OpenClaim.holds_of_cond 9 Tryz.f9 rfl rfl rfl rfl rfl rfl rfl ⟨rfl,rfl,rfl,rfl,rfl⟩ rfl rfl rfl rfl rfl af Tryz.func9 af
    (of_decide_eq_true af) (by unfold Func.isWrapper; first | (rw [if_pos (by decide +kernel)]; kernel_rfl) | (rw [if_neg (by decide +kernel)]; exact ⟨rfl,rfl⟩))
    (fun os started H enc _ F=>by rw [OpenClaim.pre_eq_preRow]; exact lifted os started H enc F)
theorem plain (f:FuncId) (fn:Func) (hf:Tryz.pinned.checked.prog.funcNamed "docket/docketlaw14.EventKept" = some f) (hfn:Tryz.pinned.checked.prog.funcs[f]? = some fn) :
    false=Tryz.pinned.checked.prog.looks []∧∀ (j:Nat) t,fn.params[j]? = some t→Tryz.pinned.checked.prog.wantsStandIn t=false:=by
  obtain rfl:f=9:=Option.some.inj ((show Tryz.prog.funcNamed "docket/docketlaw14.EventKept" = some 9 by kernel_rfl).symm.trans hf) |>.symm
  obtain rfl:fn=Tryz.f9:=(Option.some.inj (Tryz.func9.symm.trans hfn)).symm
  refine ⟨ af,fun j t ht=>?_⟩
  rw [Tryz.params9] at ht
  have hm:=Array.mem_of_getElem? ht
  simp only [List.mem_toArray,List.mem_cons,List.not_mem_nil,or_false] at hm
  rcases hm with rfl | rfl
  · exact (show Tryz.prog.wantsStandIn 62=false by kernel_rfl)
  · exact (show Tryz.prog.wantsStandIn 63=false by kernel_rfl)
theorem proved:Rows.EventKeptCardSaid :=
  Claim7.holds_tied_plain_at .later [] _ _ _ _ said (fun _ h=>by cases h) af (fun _ h=>by cases h) eventKept_row_tie rfl ⟨rfl,rfl⟩ af rfl plain af
end Go.Proofs.YtepbmdlgdaedpaaGreatDoor.eventKept
