/- EventOrders: the law 'EventOrders' returns true, whatever the input. -/
import Derived.Test.YtepbmdlgdaedpaaGreatDoorCards
import Derived.Test.YtepbmdlgdaedpaaGreatDoorTie
import Derived.Test.YtepbmdlgdaedpaaGreatDoorEvT
import Derived.Test.YtepbmdlgdaedpaaGreatDoorOpenCa
import Derived.Test.YtepbmdlgdaedpaaGreatDoorLawOrders
import Derived.Deep.DeepHandedRow
import Derived.Lib.LaidTab
/- EventOrders: the law 'EventOrders' returns true, whatever the input. -/
namespace Go.Proofs.YtepbmdlgdaedpaaGreatDoor.eventOrders
open Go.ChangeShapes Go.WideShapes Go.ChangeAt Go.RowKit Go.Dk
theorem own:ownKnob Tryz.prog.godebug=none:=af
theorem laidOut:laidOutB Tryz.prog=true:=af
theorem FM:Tryz.prog.cellsOf 240=35:=af
theorem Dt:Rows.eventOrdersRow.laid=("docket/text.reserved",.agg (reserved.map fun z=> .lit (.string z)))::[]:=af
theorem gS:Tryz.prog.globalNamed "docket/text.reserved" = some 1:=af
theorem gtS:(Tryz.prog.globals[1]?).map (·.type)=some 240:=af
theorem tS {W:World} (h:laidMetH Tryz.prog Rows.eventOrdersRow.laid W):mF W:=by
  have h':laidMet Tryz.prog Rows.eventOrdersRow.laid W:=h
  rw [Dt] at h'
  exact CJ gS gtS Tryz.underlying240 H7 Gm FM h'
set_option maxRecDepth 100000 in
theorem contract (H:Type) (enc:TypeId × Value→H) (W:World) (base:Nat) (args:Array Value) (ds gs:List (DataW H)) (before:List MemPlace)
    (hval:∀ (j:Nat) t v,Tryz.f8.params[j]? = some t→args[j]? = some v→Value.okWide Tryz.prog W .any base t v)
    (hW:DataW.Whole enc Tryz.prog Tryz.f8.params.toList Rows.eventOrdersSpec.vars false W args.toList ds gs before)
    (hsz:(DataW.weightsEach Tryz.prog (Tryz.f8.params.toList++(OpenSpec.ofChange Rows.eventOrdersSpec).bare.plain.varTypes Tryz.prog) (ds++gs)).all (· ≤ reachBytes)=true) (hL:laidMetH Tryz.prog Rows.eventOrdersRow.laid W) :
    Calls Tryz.prog 8 args W fun e W'=>∃ v,e= .returned v∧Rows.eventOrdersSpec.post enc Tryz.prog Tryz.f8 false true false false W args v W':=by
  have hW':=hW
  obtain ⟨p,q,hA0,hV,rfl,hfz,hnd⟩:=hW
  have hA:DataW.TrodAll enc Tryz.prog W 0 (fun _=>true) true Tryz.f8.params.toList args.toList ds p:=hA0
  rw [Tryz.params8] at hA hval hsz
  obtain ⟨v0,vs0,d0,ds0,p0,q0,hargs,rfl,rfl,h0,r0⟩:=trodAll_cons hA
  obtain ⟨v1,vs1,d1,ds1,p1,q1,hargs1,rfl,rfl,h1,r1⟩:=trodAll_cons r0
  subst hargs1
  obtain ⟨v2,vs2,d2,ds2,p2,q2,hargs2,rfl,rfl,h2,r2⟩:=trodAll_cons r1
  subst hargs2
  obtain ⟨v3,vs3,d3,ds3,p3,q3,hargs3,rfl,rfl,h3,r3⟩:=trodAll_cons r2
  subst hargs3
  obtain ⟨v4,vs4,d4,ds4,p4,q4,hargs4,rfl,rfl,h4,r4⟩:=trodAll_cons r3
  subst hargs4
  obtain ⟨rfl,rfl,rfl⟩:=trodAll_nil r4
  obtain rfl:args = #[v0,v1,v2,v3,v4]:=by cases args; simp_all
  obtain ⟨rfl,rfl⟩:=trodVars_none hV
  have k0:=h0
  have lt0:∀ x∈p0,x.block<W.heap.size:=by obtain ⟨m,hm⟩:=k0; exact DataW.trod_lt m _ _ _ hm
  have k1:=h1
  have lt1:∀ x∈p1,x.block<W.heap.size:=by obtain ⟨m,hm⟩:=k1; exact DataW.trod_lt m _ _ _ hm
  have k2:=h2
  have lt2:∀ x∈p2,x.block<W.heap.size:=by obtain ⟨m,hm⟩:=k2; exact DataW.trod_lt m _ _ _ hm
  have k3:=h3
  have lt3:∀ x∈p3,x.block<W.heap.size:=by obtain ⟨m,hm⟩:=k3; exact DataW.trod_lt m _ _ _ hm
  have k4:=h4
  have lt4:∀ x∈p4,x.block<W.heap.size:=by obtain ⟨m,hm⟩:=k4; exact DataW.trod_lt m _ _ _ hm
  obtain ⟨n1,d1,rfl,hn1,hd1⟩:=uK (hval 0 49 v0 rfl rfl) h0
  obtain ⟨clk,rfl,lclk,uclk⟩:=nM H8 (hval 1 3 v1 rfl rfl) h1
  replace lclk : -9223372036854775808≤clk:=lclk
  replace uclk:clk≤9223372036854775807:=uclk
  obtain ⟨Ans,ns,cns,rfl,hnns,hrns,hcns⟩:=uJ (hval 2 23 v2 rfl rfl) h2 (rJ hsz (j:=2) rfl rfl)
  obtain ⟨Ads,ds,cds,rfl,hnds,hRds,hdds,hcds⟩:=uM (hval 3 59 v3 rfl rfl) h3 (rJ hsz (j:=3) rfl rfl)
  obtain ⟨at_,rfl,lat_,uat_⟩:=nM H8 (hval 4 3 v4 rfl rfl) h4
  replace lat_ : -9223372036854775808≤at_:=lat_
  replace uat_:at_≤9223372036854775807:=uat_
  clear hA0
  refine (uQ W n1 d1 clk Ans ns cns Ads ds cds at_ (tS hL) hd1 hrns hRds hdds hnns hnds hcns hcds).mono fun e W' ⟨he,hat⟩=>?_
  have bel:Below W.heap.size W W':=hat.below (fun _ h=>by cases h)
  subst he
  exact ⟨_,rfl,_,_,_,[],_,[],hW',trodAll_mk1 (shut_bool Tryz.underlying4 _),(trodAll_cons_mk (Below.trod laidOut af (of_decide_eq_true af) k0 bel lt0) (trodAll_cons_mk (Below.trod laidOut af (of_decide_eq_true af) k1 bel lt1) (trodAll_cons_mk (Below.trod laidOut af (of_decide_eq_true af) k2 bel lt2) (trodAll_cons_mk (Below.trod laidOut af (of_decide_eq_true af) k3 bel lt3) (trodAll_cons_mk (Below.trod laidOut af (of_decide_eq_true af) k4 bel lt4) trodAll_mk0))))),rfl,bel.frame _,fun h=>by cases h⟩
def zV:DataW Unit→Array Value
  | .agg l=>(l.map fun | .lit (.int k n)=> .int k n | .lit (.string l)=> .string ⟨l.toArray⟩ | _=>undef).toArray
  | _ => #[]
def lay (h:Array Obj) (g:Nat) (d:DataW Unit):Array Obj:=h.modify g fun
  | .cells _ t frozen=> .cells (zV d) t frozen
  | o=>o
noncomputable def laidWorld (os:Os):World :=
  { World.holding Tryz.prog os ⟨#[],#[],[]⟩ with heap:=lay (World.holding Tryz.prog os ⟨#[],#[],[]⟩).heap 1 Rows.laid_docket_text_reserved }
def argv:Array Value := #[.agg (.int .i64 0::dc (List.replicate 32 0):List Value).toArray,.int .i64 0,.slice none 0 0,.slice none 0 0,.int .i64 0]
theorem laid_met (os:Os):laidMet Tryz.prog Rows.eventOrdersRow.laid ((laidWorld os).forCall (fun _ _=>0) ⟨#[],argv,[]⟩).memory :=
  laidMet_of_run' 8 af af
theorem reads (os:Os) {H:Type} (enc:TypeId × Value→H):∃ places,DataW.whole enc Tryz.prog ((laidWorld os).forCall (fun _ _=>0) ⟨#[],argv,[]⟩).memory Tryz.f8.params.toList Rows.eventOrdersSpec.vars false argv.toList 8=some ([.agg [.lit (.int .i64 0),.agg (List.replicate 32 (.lit (.int .u8 0)))],.lit (.int .i64 0),.nil,.nil,.lit (.int .i64 0)],[],places) :=
  ⟨[],af⟩
set_option maxRecDepth 100000 in
theorem lifted (os:Os) (started:os.Started) (H:Type) (enc:TypeId × Value→H) (F:Stop.Interp) :
    ReturnsInHanded {} Tryz.checked os 8 .any ((OpenSpec.ofChange Rows.eventOrdersSpec).preRow enc Tryz.prog Tryz.f8 Rows.eventOrdersRow.domain false Rows.eventOrdersRow.laid) (((OpenSpec.ofChange Rows.eventOrdersSpec).at F).post enc Tryz.prog Tryz.f8 false true false false):=by
  obtain ⟨places,hx⟩:=reads os enc
  refine returnsInHanded_of_row (C:=Tryz.checked) (s:=OpenSpec.ofChange Rows.eventOrdersSpec) own started af Tryz.func8
    (witness_row_at (enc:=enc) (C:=Tryz.checked) false (laidWorld os) argv rfl af af af
      (OpenSpec.preRow_of_cond 8 hx af (fun k hk=>by cases hk) af (laid_met os))) ?_
  intro W base args ds gs before hval hW _ _ hsz hL _ _
  exact contract H enc W base args ds gs before hval hW hsz hL
theorem said:Rows.EventOrdersSaid :=
  OpenClaim.holds_of_cond 8 Tryz.f8 rfl rfl rfl rfl rfl rfl rfl ⟨rfl,rfl,rfl,rfl,rfl⟩ rfl rfl rfl rfl rfl af Tryz.func8 af
    (of_decide_eq_true af) (by unfold Func.isWrapper; first | (rw [if_pos (by decide +kernel)]; kernel_rfl) | (rw [if_neg (by decide +kernel)]; exact ⟨rfl,rfl⟩))
    (fun os started H enc _ F=>by rw [OpenClaim.pre_eq_preRow]; exact lifted os started H enc F)
theorem plain (f:FuncId) (fn:Func) (hf:Tryz.pinned.checked.prog.funcNamed "docket/docketlaw14.EventOrders" = some f) (hfn:Tryz.pinned.checked.prog.funcs[f]? = some fn) :
    false=Tryz.pinned.checked.prog.looks []∧∀ (j:Nat) t,fn.params[j]? = some t→Tryz.pinned.checked.prog.wantsStandIn t=false:=by
  obtain rfl:f=8:=Option.some.inj ((show Tryz.prog.funcNamed "docket/docketlaw14.EventOrders" = some 8 by kernel_rfl).symm.trans hf) |>.symm
  obtain rfl:fn=Tryz.f8:=(Option.some.inj (Tryz.func8.symm.trans hfn)).symm
  refine ⟨ af,fun j t ht=>?_⟩
  rw [Tryz.params8] at ht
  have hm:=Array.mem_of_getElem? ht
  simp only [List.mem_toArray,List.mem_cons,List.not_mem_nil,or_false] at hm
  rcases hm with rfl | rfl | rfl | rfl | rfl
  · exact (show Tryz.prog.wantsStandIn 49=false by kernel_rfl)
  · exact (show Tryz.prog.wantsStandIn 3=false by kernel_rfl)
  · exact (show Tryz.prog.wantsStandIn 23=false by kernel_rfl)
  · exact (show Tryz.prog.wantsStandIn 59=false by kernel_rfl)
  · exact (show Tryz.prog.wantsStandIn 3=false by kernel_rfl)
theorem proved:Rows.EventOrdersCardSaid :=
  Claim7.holds_tied_plain_at .later [] _ _ _ _ said (fun _ h=>by cases h) af (fun _ h=>by cases h) eventOrders_row_tie rfl ⟨rfl,rfl⟩ af rfl plain af
end Go.Proofs.YtepbmdlgdaedpaaGreatDoor.eventOrders
