/- SparseMemory: the law 'SparseMemory' returns true, whatever the input. -/
import Derived.Test.YtpomngkcfbnjoaaGreatDoorCards
import Derived.Test.YtpomngkcfbnjoaaGreatDoorTie
import Derived.Test.YtpomngkcfbnjoaaGreatDoorOpenS
import Derived.Test.YtpomngkcfbnjoaaGreatDoorOpenCa
import Derived.Deep.DeepHandedRow
import Derived.Lib.LaidTab
/- SparseMemory: the law 'SparseMemory' returns true, whatever the input. -/
namespace Go.Proofs.YtpomngkcfbnjoaaGreatDoor.sparseMemory
open Go.ChangeShapes Go.WideShapes Go.ChangeAt Go.RowKit Go.Dk
theorem own:ownKnob Tryz.prog.godebug=none:=af
theorem laidOut:laidOutB Tryz.prog=true:=af
theorem gTab:Tryz.prog.globalNamed "docket/digest.round" = some 0:=af
theorem MN:(Tryz.prog.globals[0]?).map (·.type)=some 161:=af
theorem NK:Tryz.prog.cellsOf 161=64:=af
theorem NL:Tryz.prog.cellsOf 129=1:=af
def zs:List Int:=ks.map fun x:Nat=>(x:Int)
theorem Pm:Rows.sparseMemoryRow.laid=("docket/digest.round",Lib.tabData .u32 zs)::[]:=af
theorem Sz:∀ i,i<64→zs.getD i 0=(wAt ks i:Nat):=by decide +kernel
theorem table {W:World} (h:laidMetH Tryz.prog Rows.sparseMemoryRow.laid W):Tab W:=by
  have h':laidMet Tryz.prog Rows.sparseMemoryRow.laid W:=h
  rw [Pm] at h'
  have ht:Lib.TabIs Tryz.prog W "docket/digest.round" .u32 zs:=Lib.tabIs_of_head (rest:=[]) gTab MN Tryz.underlying161 Uc NL NK h'
  intro i hi
  rw [ht.cell gTab i (by rw [show zs.length=64 by decide +kernel]; exact hi),Sz i hi]
set_option maxRecDepth 100000 in
theorem contract (H:Type) (enc:TypeId × Value→H) (W:World) (base:Nat) (args:Array Value) (ds gs:List (DataW H)) (before:List MemPlace)
    (hval:∀ (j:Nat) t v,Tryz.f3.params[j]? = some t→args[j]? = some v→Value.okWide Tryz.prog W .any base t v)
    (hW:DataW.Whole enc Tryz.prog Tryz.f3.params.toList Rows.sparseMemorySpec.vars false W args.toList ds gs before)
    (hsz:(DataW.weightsEach Tryz.prog (Tryz.f3.params.toList++(OpenSpec.ofChange Rows.sparseMemorySpec).bare.plain.varTypes Tryz.prog) (ds++gs)).all (· ≤ reachBytes)=true) (hL:laidMetH Tryz.prog Rows.sparseMemoryRow.laid W) :
    Calls Tryz.prog 3 args W fun e W'=>∃ v,e= .returned v∧Rows.sparseMemorySpec.post enc Tryz.prog Tryz.f3 false true false false W args v W':=by
  have hW':=hW
  obtain ⟨p,q,hA0,hV,rfl,hfz,hnd⟩:=hW
  have hA:DataW.TrodAll enc Tryz.prog W 0 (fun _=>true) true Tryz.f3.params.toList args.toList ds p:=hA0
  rw [Tryz.params3] at hA hval hsz
  obtain ⟨v0,vs0,d0,ds0,p0,q0,hargs,rfl,rfl,h0,r0⟩:=trodAll_cons hA
  obtain ⟨rfl,rfl,rfl⟩:=trodAll_nil r0
  obtain rfl:args = #[v0]:=by cases args; simp_all
  obtain ⟨rfl,rfl⟩:=trodVars_none hV
  have k0:=h0
  have lt0:∀ x∈p0,x.block<W.heap.size:=by obtain ⟨m,hm⟩:=k0; exact DataW.trod_lt m _ _ _ hm
  obtain ⟨A0,qs,c0,rfl,hle0,hG0,hrc0⟩:=open_script (hval 0 22 v0 rfl rfl) h0
  clear hA0
  refine (Fj W A0 (qs.take 12) qs.length c0 (table hL) hle0 (by rw [List.length_take,Nat.min_comm]) (fun a ha=>hG0 a (List.mem_of_mem_take ha)) (Ej 12 hrc0)).mono fun e W' ⟨he,hat⟩=>?_
  have bel:Below W.heap.size W W':=hat.below (fun _ h=>by cases h)
  subst he
  exact ⟨_,rfl,_,_,_,[],_,[],hW',trodAll_mk1 (shut_bool Ua _),(trodAll_cons_mk (Below.trod laidOut af (of_decide_eq_true af) k0 bel lt0) trodAll_mk0),rfl,bel.frame _,fun h=>by cases h⟩
def MG:DataW Unit→Array Value
  | .agg l=>(l.map fun | .lit (.int k n)=> .int k n | _=>undef).toArray
  | _ => #[]
def lay (h:Array Obj) (g:Nat) (d:DataW Unit):Array Obj:=h.modify g fun
  | .cells _ t frozen=> .cells (MG d) t frozen
  | o=>o
noncomputable def laidWorld (os:Os):World :=
  { World.holding Tryz.prog os ⟨#[],#[],[]⟩ with heap:=lay (World.holding Tryz.prog os ⟨#[],#[],[]⟩).heap 0 Rows.laid_docket_digest_round }
def argv:Array Value := #[.slice none 0 0]
theorem laid_met (os:Os):laidMet Tryz.prog Rows.sparseMemoryRow.laid ((laidWorld os).forCall (fun _ _=>0) ⟨#[],argv,[]⟩).memory :=
  laidMet_of_run' 8 af af
theorem reads (os:Os) {H:Type} (enc:TypeId × Value→H):∃ places,DataW.whole enc Tryz.prog ((laidWorld os).forCall (fun _ _=>0) ⟨#[],argv,[]⟩).memory Tryz.f3.params.toList Rows.sparseMemorySpec.vars false argv.toList 8=some ([.nil],[],places) :=
  ⟨[],af⟩
set_option maxRecDepth 100000 in
theorem lifted (os:Os) (started:os.Started) (H:Type) (enc:TypeId × Value→H) (F:Stop.Interp) :
    ReturnsInHanded {} Tryz.checked os 3 .any ((OpenSpec.ofChange Rows.sparseMemorySpec).preRow enc Tryz.prog Tryz.f3 Rows.sparseMemoryRow.domain false Rows.sparseMemoryRow.laid) (((OpenSpec.ofChange Rows.sparseMemorySpec).at F).post enc Tryz.prog Tryz.f3 false true false false):=by
  obtain ⟨places,hx⟩:=reads os enc
  refine returnsInHanded_of_row (C:=Tryz.checked) (s:=OpenSpec.ofChange Rows.sparseMemorySpec) own started af Tryz.func3
    (witness_row_at (enc:=enc) (C:=Tryz.checked) false (laidWorld os) argv rfl af af af
      (OpenSpec.preRow_of_cond 8 hx af (fun k hk=>by cases hk) af (laid_met os))) ?_
  intro W base args ds gs before hval hW _ _ hsz hL _ _
  exact contract H enc W base args ds gs before hval hW hsz hL
theorem said:Rows.SparseMemorySaid :=
  OpenClaim.holds_of_cond 3 Tryz.f3 rfl rfl rfl rfl rfl rfl rfl ⟨rfl,rfl,rfl,rfl,rfl⟩ rfl rfl rfl rfl rfl af Tryz.func3 af
    (of_decide_eq_true af) (by unfold Func.isWrapper; first | (rw [if_pos (by decide +kernel)]; kernel_rfl) | (rw [if_neg (by decide +kernel)]; exact ⟨rfl,rfl⟩))
    (fun os started H enc _ F=>by rw [OpenClaim.pre_eq_preRow]; exact lifted os started H enc F)
theorem plain (f:FuncId) (fn:Func) (hf:Tryz.pinned.checked.prog.funcNamed "docket/docketlaw8.SparseMemory" = some f) (hfn:Tryz.pinned.checked.prog.funcs[f]? = some fn) :
    false=Tryz.pinned.checked.prog.looks []∧∀ (j:Nat) t,fn.params[j]? = some t→Tryz.pinned.checked.prog.wantsStandIn t=false:=by
  obtain rfl:f=3:=Option.some.inj ((show Tryz.prog.funcNamed "docket/docketlaw8.SparseMemory" = some 3 by kernel_rfl).symm.trans hf) |>.symm
  obtain rfl:fn=Tryz.f3:=(Option.some.inj (Tryz.func3.symm.trans hfn)).symm
  refine ⟨ af,fun j t ht=>?_⟩
  rw [Tryz.params3] at ht
  have hm:=Array.mem_of_getElem? ht
  simp only [List.mem_toArray,List.mem_cons,List.not_mem_nil,or_false] at hm
  subst hm
  exact (show Tryz.prog.wantsStandIn 22=false by kernel_rfl)
theorem proved:Rows.SparseMemoryCardSaid :=
  Claim7.holds_tied_plain_at .later [] _ _ _ _ said (fun _ h=>by cases h) af (fun _ h=>by cases h) sparseMemory_row_tie rfl ⟨rfl,rfl⟩ af rfl plain af
end Go.Proofs.YtpomngkcfbnjoaaGreatDoor.sparseMemory
