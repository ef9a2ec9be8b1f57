/- EventChains: the law 'EventChains' returns true, whatever the input. -/
import Derived.Test.YtepbmdlgdaedpaaGreatDoorCards
import Derived.Test.YtepbmdlgdaedpaaGreatDoorTie
import Derived.Test.YtepbmdlgdaedpaaGreatDoorLt
import Derived.Test.YtepbmdlgdaedpaaGreatDoorOpenPz
import Derived.Test.YtepbmdlgdaedpaaGreatDoorLawChains
import Derived.Deep.DeepHandedRow
import Derived.Lib.LaidTab
/- EventChains: the law 'EventChains' returns true, whatever the input. -/
namespace Go.Proofs.YtepbmdlgdaedpaaGreatDoor.eventChains
open Go.ChangeShapes Go.WideShapes Go.ChangeAt Go.RowKit Go.Dk
theorem own:ownKnob Tryz.prog.godebug=none:=af
theorem laidOut:laidOutB Tryz.prog=true:=af
theorem LP:Tryz.prog.cellsOf 240=35:=af
def zs:List Int:=ks.map fun x:Nat=>(x:Int)
theorem LW:∀ i,i<64→zs.getD i 0=(wAt ks i:Nat):=by decide +kernel
theorem Bl:Rows.eventChainsRow.laid=("docket/digest.round",Lib.tabData .u32 zs)::("docket/text.reserved",.agg (reserved.map fun z=> .lit (.string z)))::[]:=af
theorem gD:Tryz.prog.globalNamed "docket/digest.round" = some 2:=af
theorem gtD:(Tryz.prog.globals[2]?).map (·.type)=some 260:=af
theorem cellsA:Tryz.prog.cellsOf 260=64:=af
theorem LM:Tryz.prog.cellsOf 150=1:=af
theorem tD {W:World} (h:laidMetH Tryz.prog Rows.eventChainsRow.laid W):Tab W:=by
  have h':laidMet Tryz.prog Rows.eventChainsRow.laid W:=h
  rw [Bl] at h'
  have ht:Lib.TabIs Tryz.prog W "docket/digest.round" .u32 zs:=Lib.tabIs_of_head gD gtD Tryz.underlying260 NW LM cellsA h'
  intro i hi
  rw [ht.cell gD i (by rw [show zs.length=64 by decide +kernel]; exact hi),LW i hi]
theorem gS:Tryz.prog.globalNamed "docket/text.reserved" = some 1:=af
theorem gtS:(Tryz.prog.globals[1]?).map (·.type)=some 240:=af
theorem tS {W:World} (h:laidMetH Tryz.prog Rows.eventChainsRow.laid W):sQ W:=by
  have h':laidMet Tryz.prog Rows.eventChainsRow.laid W:=h
  rw [Bl] at h'
  exact Ii gS gtS Tryz.underlying240 NY xR LP (DC h')
set_option maxRecDepth 100000 in
theorem contract (H:Type) (enc:TypeId × Value→H) (W:World) (base:Nat) (args:Array Value) (ds gs:List (DataW H)) (before:List MemPlace)
    (hval:∀ (j:Nat) t v,Tryz.f13.params[j]? = some t→args[j]? = some v→Value.okWide Tryz.prog W .any base t v)
    (hW:DataW.Whole enc Tryz.prog Tryz.f13.params.toList Rows.eventChainsSpec.vars false W args.toList ds gs before)
    (hsz:(DataW.weightsEach Tryz.prog (Tryz.f13.params.toList++(OpenSpec.ofChange Rows.eventChainsSpec).bare.plain.varTypes Tryz.prog) (ds++gs)).all (· ≤ reachBytes)=true) (hL:laidMetH Tryz.prog Rows.eventChainsRow.laid W) :
    Calls Tryz.prog 13 args W fun e W'=>∃ v,e= .returned v∧Rows.eventChainsSpec.post enc Tryz.prog Tryz.f13 false true false false W args v W':=by
  have hW':=hW
  obtain ⟨p,q,hA0,hV,rfl,hfz,hnd⟩:=hW
  have hA:DataW.TrodAll enc Tryz.prog W 0 (fun _=>true) true Tryz.f13.params.toList args.toList ds p:=hA0
  rw [Tryz.params13] at hA hval hsz
  obtain ⟨v0,vs0,d0,ds0,p0,q0,hargs,rfl,rfl,h0,r0⟩:=trodAll_cons hA
  obtain ⟨v1,vs1,d1,ds1,p1,q1,hargs1,rfl,rfl,h1,r1⟩:=trodAll_cons r0
  subst hargs1
  obtain ⟨v2,vs2,d2,ds2,p2,q2,hargs2,rfl,rfl,h2,r2⟩:=trodAll_cons r1
  subst hargs2
  obtain ⟨rfl,rfl,rfl⟩:=trodAll_nil r2
  obtain rfl:args = #[v0,v1,v2]:=by cases args; simp_all
  obtain ⟨rfl,rfl⟩:=trodVars_none hV
  have k0:=h0
  have lt0:∀ x∈p0,x.block<W.heap.size:=by obtain ⟨m,hm⟩:=k0; exact DataW.trod_lt m _ _ _ hm
  have k1:=h1
  have lt1:∀ x∈p1,x.block<W.heap.size:=by obtain ⟨m,hm⟩:=k1; exact DataW.trod_lt m _ _ _ hm
  have k2:=h2
  have lt2:∀ x∈p2,x.block<W.heap.size:=by obtain ⟨m,hm⟩:=k2; exact DataW.trod_lt m _ _ _ hm
  obtain ⟨n1,d1,rfl,hn1,hd1⟩:=zY (hval 0 49 v0 rfl rfl) h0
  obtain ⟨Aps,ps,cps,rfl,hnps,hPps,hzps⟩:=vJ (hval 1 63 v1 rfl rfl) h1 (EE hsz (j:=1) rfl rfl)
  obtain ⟨ea,rfl,hea⟩:=zX (hval 2 31 v2 rfl rfl) h2
  clear hA0
  refine (Ae W n1 d1 Aps ps cps ea (tD hL) (tS hL) hd1 hPps hzps hnps hea).mono fun e W' ⟨he,hat⟩=>?_
  have bel:Below W.heap.size W W':=hat.below (fun _ h=>by cases h)
  subst he
  exact ⟨_,rfl,_,_,_,[],_,[],hW',trodAll_mk1 (shut_bool Tryz.underlying4 _),(trodAll_cons_mk (Below.trod laidOut af (of_decide_eq_true af) k0 bel lt0) (trodAll_cons_mk (Below.trod laidOut af (of_decide_eq_true af) k1 bel lt1) (trodAll_cons_mk (Below.trod laidOut af (of_decide_eq_true af) k2 bel lt2) trodAll_mk0))),rfl,bel.frame _,fun h=>by cases h⟩
def Fg:DataW Unit→Array Value
  | .agg l=>(l.map fun | .lit (.int k n)=> .int k n | .lit (.string l)=> .string ⟨l.toArray⟩ | _=>undef).toArray
  | _ => #[]
def lay (h:Array Obj) (g:Nat) (d:DataW Unit):Array Obj:=h.modify g fun
  | .cells _ t frozen=> .cells (Fg d) t frozen
  | o=>o
noncomputable def laidWorld (os:Os):World :=
  { World.holding Tryz.prog os ⟨#[],#[],[]⟩ with heap:=lay (lay (World.holding Tryz.prog os ⟨#[],#[],[]⟩).heap 2 Rows.laid_docket_digest_round) 1 Rows.laid_docket_text_reserved }
def argv:Array Value := #[.agg (.int .i64 0::dc (List.replicate 32 0):List Value).toArray,.slice none 0 0,.agg noEA.cells.toArray]
theorem laid_met (os:Os):laidMet Tryz.prog Rows.eventChainsRow.laid ((laidWorld os).forCall (fun _ _=>0) ⟨#[],argv,[]⟩).memory :=
  laidMet_of_run' 8 af af
theorem reads (os:Os) {H:Type} (enc:TypeId × Value→H):∃ places,DataW.whole enc Tryz.prog ((laidWorld os).forCall (fun _ _=>0) ⟨#[],argv,[]⟩).memory Tryz.f13.params.toList Rows.eventChainsSpec.vars false argv.toList 8=some ([.agg [.lit (.int .i64 0),.agg (List.replicate 32 (.lit (.int .u8 0)))],.nil,.agg [.lit (.int .i64 0),.lit (.int .i64 0),.lit (.int .i64 0),.lit (.string []),.lit (.string []),.lit (.string []),.agg [.lit (.int .i64 0),.lit (.int .i64 0),.lit (.string []),.nil],.nil,.nil,.agg (List.replicate 32 (.lit (.int .u8 0)))]],[],places) :=
  ⟨[],af⟩
set_option maxRecDepth 100000 in
theorem lifted (os:Os) (started:os.Started) (H:Type) (enc:TypeId × Value→H) (F:Stop.Interp) :
    ReturnsInHanded {} Tryz.checked os 13 .any ((OpenSpec.ofChange Rows.eventChainsSpec).preRow enc Tryz.prog Tryz.f13 Rows.eventChainsRow.domain false Rows.eventChainsRow.laid) (((OpenSpec.ofChange Rows.eventChainsSpec).at F).post enc Tryz.prog Tryz.f13 false true false false):=by
  obtain ⟨places,hx⟩:=reads os enc
  refine returnsInHanded_of_row (C:=Tryz.checked) (s:=OpenSpec.ofChange Rows.eventChainsSpec) own started af Tryz.func13
    (witness_row_at (enc:=enc) (C:=Tryz.checked) false (laidWorld os) argv rfl af af af
      (OpenSpec.preRow_of_cond 8 hx af (fun k hk=>by cases hk) af (laid_met os))) ?_
  intro W base args ds gs before hval hW _ _ hsz hL _ _
  exact contract H enc W base args ds gs before hval hW hsz hL
theorem said:Rows.EventChainsSaid :=
  OpenClaim.holds_of_cond 13 Tryz.f13 rfl rfl rfl rfl rfl rfl rfl ⟨rfl,rfl,rfl,rfl,rfl⟩ rfl rfl rfl rfl rfl af Tryz.func13 af
    (of_decide_eq_true af) (by unfold Func.isWrapper; first | (rw [if_pos (by decide +kernel)]; kernel_rfl) | (rw [if_neg (by decide +kernel)]; exact ⟨rfl,rfl⟩))
    (fun os started H enc _ F=>by rw [OpenClaim.pre_eq_preRow]; exact lifted os started H enc F)
theorem plain (f:FuncId) (fn:Func) (hf:Tryz.pinned.checked.prog.funcNamed "docket/docketlaw14.EventChains" = some f) (hfn:Tryz.pinned.checked.prog.funcs[f]? = some fn) :
    false=Tryz.pinned.checked.prog.looks []∧∀ (j:Nat) t,fn.params[j]? = some t→Tryz.pinned.checked.prog.wantsStandIn t=false:=by
  obtain rfl:f=13:=Option.some.inj ((show Tryz.prog.funcNamed "docket/docketlaw14.EventChains" = some 13 by kernel_rfl).symm.trans hf) |>.symm
  obtain rfl:fn=Tryz.f13:=(Option.some.inj (Tryz.func13.symm.trans hfn)).symm
  refine ⟨ af,fun j t ht=>?_⟩
  rw [Tryz.params13] at ht
  have hm:=Array.mem_of_getElem? ht
  simp only [List.mem_toArray,List.mem_cons,List.not_mem_nil,or_false] at hm
  rcases hm with rfl | rfl | rfl
  · exact (show Tryz.prog.wantsStandIn 49=false by kernel_rfl)
  · exact (show Tryz.prog.wantsStandIn 63=false by kernel_rfl)
  · exact (show Tryz.prog.wantsStandIn 31=false by kernel_rfl)
theorem proved:Rows.EventChainsCardSaid :=
  Claim7.holds_tied_plain_at .later [] _ _ _ _ said (fun _ h=>by cases h) af (fun _ h=>by cases h) eventChains_row_tie rfl ⟨rfl,rfl⟩ af rfl plain af
end Go.Proofs.YtepbmdlgdaedpaaGreatDoor.eventChains
