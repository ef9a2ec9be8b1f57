/- Texts that belong together, one behind the other. -/
import Derived.WalkKit
import Derived.ProofKit
import Derived.Test.YtepbmdlgdaedpaaGreatDoorProg
import Derived.OrdersHeld
import Derived.Tactics
import Derived.Tactics2
import Derived.KernelRfl
import Derived.Laws.World
namespace Go.Dk
open Go Go.RowKit
theorem ae {P : Prop} (h : P := by decide) : P := h
theorem af {P : Prop} (h : P := by kernel_rfl) : P := h
theorem ag {P : Prop} (h : P := by omega) : P := h
theorem ah {P : Prop} (h : P := by rfl) : P := h
theorem ai {n m : Nat} (h : Nat.ble n m = true := by rfl) : n ≤ m := Nat.le_of_ble_eq_true h
theorem O {α : Sort _} {a : α} : a = a := rfl
abbrev Nl := @Nat.zero_le
abbrev Np := @IntWalk.i64_in
abbrev Nr := @List.mem_append_left
abbrev Ns := @List.mem_append_right
abbrev Nu := @List.mem_cons_self
abbrev Nv := @Nat.le_refl
abbrev Nw := @List.mem_cons_of_mem
abbrev Ny := @List.take_of_length_le
end Go.Dk
namespace Go.Proofs.YtepbmdlgdaedpaaGreatDoor
open Go.RowKit Go.Dk
abbrev Nk := @Tryz.underlying23
abbrev Nq := @Tryz.underlying27
abbrev Nz := @Tryz.underlying9
abbrev NC := @Tryz.underlying3
abbrev ND := @Tryz.underlying25
abbrev NE := @Tryz.underlying31
abbrev NF := @Tryz.underlying129
abbrev NG := @Tryz.underlying26
abbrev NH := @Tryz.underlying22
abbrev NI := @Tryz.underlying5
abbrev NJ := @Tryz.underlying135
abbrev NK := @Tryz.underlying29
abbrev NL := @Tryz.underlying52
abbrev NM := @Tryz.underlying59
abbrev NP := @Tryz.underlying66
abbrev NQ := @Tryz.underlying63
abbrev NR := @Tryz.underlying70
abbrev NS := @Tryz.underlying68
abbrev NT := @Tryz.underlying74
abbrev NU := @Tryz.underlying72
abbrev NV := @Tryz.underlying62
abbrev NW := @Tryz.underlying163
abbrev NY := @Tryz.underlying81
abbrev NZ := @Tryz.underlying150
abbrev N7 := @Tryz.underlying152
abbrev N8 := @Tryz.underlying49
abbrev N9 := @Tryz.underlying146
end Go.Proofs.YtepbmdlgdaedpaaGreatDoor
namespace Go.Dk
open Go
section
variable {P:Program} {ops:Array Oper} {Q:Exit→Act→World→Prop} {md:Region.Mode} {S:World→Prop} {n:Nat}
def direct (md:Region.Mode) (ops:Array Oper) (j i:Nat):Bool :=
  match ops[j]? with
  | none=>false
  | some o=>o.after.any fun e=>Region.binds md e && e.on == i
def sinks (md:Region.Mode) (ops:Array Oper) (n:Nat):Bool :=
  (List.range n).all fun i=>(List.range (n+1)).any fun j=>decide (i<j) && direct md ops j i
def chained (md:Region.Mode) (ops:Array Oper) (n:Nat):Bool :=
  (List.range (ops.size-n)).all fun k=>k == 0 || direct md ops (n+k) (n+k-1)
def Closed (md:Region.Mode) (ops:Array Oper) (listed:Array Bool):Prop :=
  ∀ j i,listed.getD j false=true→direct md ops j i=true→listed.getD i false=true
theorem yw {j i:Nat} (h:direct md ops j i=true):∃ o,ops[j]? = some o∧∃ e∈o.after,Region.binds md e=true∧e.on=i:=by
  unfold direct at h
  cases ho:ops[j]? with
  | none=>simp [ho] at h
  | some o =>
    simp only [ho] at h
    obtain ⟨e,he,hb⟩:=Array.any_eq_true'.1 h
    simp only [Bool.and_eq_true,beq_iff_eq] at hb
    exact ⟨o,rfl,e,he,hb.1,hb.2⟩
theorem kN {j i:Nat} {listed:Array Bool} (hj:j∈Region.ready md ops listed) (h:direct md ops j i=true):listed.getD i false=true:=by
  obtain ⟨_,o,ho,hall⟩:=mem_ready.1 hj
  obtain ⟨o',ho',e,he,hb,rfl⟩:=yw h
  rw [ho] at ho'
  injection ho' with ho'
  subst ho'
  exact hall e he hb
theorem EO {listed:Array Bool} {i j:Nat} (h:(listed.setIfInBounds i true).getD j false=true):j=i∨listed.getD j false=true:=by
  by_cases e:i=j
  · exact .inl e.symm
  · rw [getD_set_ne false e] at h; exact .inr h
theorem Closed.set {i:Nat} {listed:Array Bool} (h:Closed md ops listed) (hi:i∈Region.ready md ops listed):Closed md ops (listed.setIfInBounds i true):=by
  intro j k hj hd
  rcases EO hj with rfl | hj
  · exact getD_set_true (kN hi hd)
  · exact getD_set_true (h j k hj hd)
theorem iU {listed:Array Bool} {i:Nat} (h:listed.getD i true=false):listed.getD i false=false:=by
  rcases Nat.lt_or_ge i listed.size with hlt | hge
  · simpa [hlt] using h
  · simp [Array.getElem?_eq_none hge] at h
theorem xP (hs:sinks md ops n=true) (hc:chained md ops n=true) {listed:Array Bool} (hcl:Closed md ops listed) {j:Nat} (hjn:n≤j) (hj:j∈Region.ready md ops listed) :
    ∀ i,i<n→listed.getD i false=true:=by
  have hjs:j<ops.size:=by
    obtain ⟨_,o,ho,_⟩:=mem_ready.1 hj
    exact (Array.getElem?_eq_some_iff.1 ho).1
  have step:∀ k,n≤k→k+1<ops.size→direct md ops (k+1) k=true:=fun k hk hlt=>by
    have h1:=List.all_eq_true.1 hc (k+1-n) (by simp; omega)
    simp only [Bool.or_eq_true,beq_iff_eq] at h1
    rcases h1 with h1 | h1
    · omega
    · rw [show n+(k+1-n)=k+1 by omega] at h1
      exact h1

  have down:∀ d k,n≤k→k<j→j-k=d→listed.getD k false=true:=by
    intro d
    induction d using Nat.strongRecOn with
    | _ d ih =>
      intro k hk hkj hd
      by_cases e:k+1=j
      · subst e; exact kN hj (step k hk hjs)
      · exact hcl (k+1) k (ih (j-(k+1)) ag (k+1) ag ag rfl) (step k hk ag)
  have nok:∀ i,direct md ops n i=true→listed.getD i false=true:=fun i hi=>by
    by_cases e:j=n
    · subst e; exact kN hj hi
    · exact hcl n i (down (j-n) n (Nv _) ag rfl) hi
  intro i hi
  have main:∀ d i,i<n→n-i=d→listed.getD i false=true:=by
    intro d
    induction d using Nat.strongRecOn with
    | _ d ih =>
      intro i hi hd
      have h1:=List.all_eq_true.1 hs i (by simpa using hi)
      obtain ⟨k,hk,h2⟩:=List.any_eq_true.1 h1
      simp only [Bool.and_eq_true,decide_eq_true_eq] at h2
      simp only [List.mem_range] at hk
      by_cases e:k=n
      · subst e; exact nok i h2.2
      · exact hcl k i (ih (n-k) ag k ag rfl) h2.2
  exact main (n-i) i hi rfl
def oN (P:Program) (md:Region.Mode) (ops:Array Oper) (Q:Exit→Act→World→Prop) (S:World→Prop) (n:Nat):Nat→Array Bool→Act→World→Prop
  | 0,listed,a,w=>Region.ready md ops listed=[]∧Q .normal a w
  | fuel+1,listed,a,w =>
    (Region.ready md ops listed=[]→Q .normal a w) ∧
    ∀ i∈Region.ready md ops listed,wpOp P ops Q i (fun a' w'=>(i<n→S w')∧oN P md ops Q S n fuel (listed.setIfInBounds i true) a' w') a w
theorem mX:∀ (fuel:Nat) (listed:Array Bool) (a:Act) (w:World),oN P md ops Q S n fuel listed a w→wpAny P md ops Q fuel listed a w
  | 0,_,_,_,h=>h
  | fuel+1,_,_,_,h=>⟨h.1,fun i hi=>wpOp_mono (fun a' w' h'=>mX fuel _ a' w' h'.2) (h.2 i hi)⟩
theorem jm {i:Nat} {oi:Oper} {v:Value} (hs:sinks md ops n=true) (hc:chained md ops n=true) (hin:i<n) (hi:ops[i]? = some oi)
    (hsel:∀ (j:Nat) (o:Oper) cs b,ops[j]? = some o→o.op≠ .select cs b)
    (hQ:∀ c a w,Q (.panic c) (a.put oi.dst v) w→Q (.panic c) a w) :
    ∀ (fuel:Nat) (listed:Array Bool) (a:Act) (w:World),Closed md ops listed →
      (∀ j oj,ops[j]? = some oj→j≠i→listed.getD j true=false→(∀ e∈oj.after,Region.binds md e=true→e.on≠i)→oi.apart ops oj=true) →
      i∈Region.ready md ops listed→YieldsIf P ops S oi v a→S w →
      oN P md ops Q S n fuel (listed.setIfInBounds i true) (a.put oi.dst v) w→oN P md ops Q S n (fuel+1) listed a w:=by
  intro fuel
  induction fuel with
  | zero =>
    intro listed a w _ _ hr hy hS H
    refine ⟨fun h=>(by rw [h] at hr; cases hr),fun j hj=>?_⟩
    by_cases hji:j=i
    · subst hji; exact hy.wpOp hi hS ⟨fun _=>hS,H⟩
    · have:=ready_mono hj hji
      rw [H.1] at this
      cases this
  | succ fuel ih =>
    intro listed a w hcl hfree hr hy hS H
    refine ⟨fun h=>(by rw [h] at hr; cases hr),fun j hj=>?_⟩
    by_cases hji:j=i
    · subst hji; exact hy.wpOp hi hS ⟨fun _=>hS,H⟩
    · have hjn:j<n:=by
        rcases Nat.lt_or_ge j n with h | h
        · exact h
        · have h1:=xP hs hc hcl h hj i hin
          have h2:=iU (mem_ready.1 hr).1
          rw [h1] at h2; cases h2
      have h1:=H.2 j (ready_mono hj hji)
      obtain ⟨hjun,oj,hoj,hall⟩:=mem_ready.1 hj
      have hnot:∀ e∈oj.after,Region.binds md e=true→e.on≠i:=fun e he hb heq=>by
        have h1:=hall e he hb
        have h0:=iU (mem_ready.1 hr).1
        rw [heq,h0] at h1
        cases h1
      have h2:=wpOp_putIf hoj (hfree j oj hoj hji hjun hnot) (fun cs b=>hsel i oi cs b hi) (fun cs b=>hsel j oj cs b hoj) hQ hy h1
      have hfree':∀ k ok,ops[k]? = some ok→k≠i→(listed.setIfInBounds j true).getD k true=false →
          (∀ e∈ok.after,Region.binds md e=true→e.on≠i)→oi.apart ops ok=true:=fun k ok hk hki hun hno=>by
        refine hfree k ok hk hki ?_ hno
        by_cases hjk:j=k
        · subst hjk; exact hjun
        · rw [getD_set_ne true hjk] at hun; exact hun
      refine wpOp_mono (fun a' w' h3=>⟨h3.2.1,ih (listed.setIfInBounds j true) a' w' (hcl.set hj) hfree' (ready_mono hr (Ne.symm hji)) h3.1 (h3.2.1 hjn) ?_⟩) h2
      rw [Array.setIfInBounds_comm _ _ hji]
      exact h3.2.2
def xx (md:Region.Mode) (ops:Array Oper) (n:Nat) (loud:List Nat):List Nat→Array Bool→Bool
  | [],listed=>(Region.ready md ops listed).isEmpty
  | i::rest,listed =>
    (Region.ready md ops listed).contains i &&
    (if loud.contains i then Region.ready md ops listed == [i] && (decide (i<n) || rest.all loud.contains)
     else decide (i<n) && Region.free md ops listed i) &&
    xx md ops n loud rest (listed.setIfInBounds i true)
def Ec (md:Region.Mode) (ops:Array Oper) (n:Nat) (loud order:List Nat):Bool :=
  Region.noSelect ops && sinks md ops n && chained md ops n && order.length == ops.size && xx md ops n loud order (Array.replicate ops.size false)
def bZ (P:Program) (ops:Array Oper) (Q:Exit→Act→World→Prop) (S:World→Prop) (n:Nat) (loud:List Nat):List Nat→Act→World→Prop
  | [],a,w=>Q .normal a w
  | i::rest,a,w =>
    match ops[i]? with
    | none=>False
    | some o =>
      if loud.contains i then wpOp P ops Q i (fun a' w'=>(i<n→S w')∧bZ P ops Q S n loud rest a' w') a w
      else if Region.wanted o (yielded ops a.tmps) then ∃ v,(∀ x,S x→(execOp a.eval o).run P x= .ok (.value v) x)∧bZ P ops Q S n loud rest (a.put o.dst v) w
      else bZ P ops Q S n loud rest (a.put o.dst undef) w
theorem kP {loud:List Nat} (hsel:Region.noSelect ops=true) (hs:sinks md ops n=true) (hc:chained md ops n=true) (hQ:∀ c a w,¬ Q (.panic c) a w) :
    ∀ (order:List Nat) (listed:Array Bool) (a:Act) (w:World),xx md ops n loud order listed=true→Closed md ops listed→((order.all loud.contains)=false→S w) →
      bZ P ops Q S n loud order a w→oN P md ops Q S n order.length listed a w
  | [],listed,a,w,hB,_,_,h=>⟨by simpa [xx] using hB,h⟩
  | i::rest,listed,a,w,hB,hcl,hS,h=>by
    simp only [xx,Bool.and_eq_true] at hB
    obtain ⟨⟨hr,hk⟩,hB'⟩:=hB
    have hr':i∈Region.ready md ops listed:=by simpa using hr
    simp only [bZ] at h
    cases ho:ops[i]? with
    | none=>simp [ho] at h
    | some o =>
      simp only [ho] at h
      by_cases hl:loud.contains i=true
      · rw [if_pos hl] at h hk
        simp only [Bool.and_eq_true,beq_iff_eq,Bool.or_eq_true,decide_eq_true_eq] at hk
        refine ⟨fun h0=>(by rw [h0] at hr'; cases hr'),fun j hj=>?_⟩
        rw [hk.1] at hj
        simp only [List.mem_singleton] at hj
        subst hj
        refine wpOp_mono (fun a' w' h'=>⟨h'.1,kP hsel hs hc hQ rest _ a' w' hB' (hcl.set hr') (fun hq=>?_) h'.2⟩) h
        rcases hk.2 with h2 | h2
        · exact h'.1 h2
        · rw [h2] at hq; cases hq
      · have hl':loud.contains i=false:=by simpa using hl
        rw [if_neg hl] at h hk
        simp only [Bool.and_eq_true,decide_eq_true_eq] at hk
        have hSw:S w:=hS (by simp only [List.all_cons,hl',Bool.false_and])
        have hrest:(rest.all loud.contains)=false→S w:=fun _=>hSw
        by_cases hw:Region.wanted o (yielded ops a.tmps)=true
        · rw [if_pos hw] at h
          obtain ⟨v,h1,h2⟩:=h
          exact jm (v:=v) hs hc hk.1 ho (Region.noSelect_spec hsel) (fun c a w hp=>(hQ _ _ _ hp).elim) rest.length listed a w hcl (Region.free_spec ho hk.2) hr' (.inl ⟨hw,h1⟩) hSw
            (kP hsel hs hc hQ rest _ _ w hB' (hcl.set hr') hrest h2)
        · rw [if_neg hw] at h
          exact jm (v:=undef) hs hc hk.1 ho (Region.noSelect_spec hsel) (fun c a w hp=>(hQ _ _ _ hp).elim) rest.length listed a w hcl (Region.free_spec ho hk.2) hr' (.inr ⟨by simpa using hw,rfl⟩) hSw
            (kP hsel hs hc hQ rest _ _ w hB' (hcl.set hr') hrest h)
def Ends (Q:Exit→Act→World→Prop):Exit→Act→World→Prop
  | .normal,a,w=>Q .normal a w
  | .outgrown,a,w=>Q .outgrown a w
  | _,_,_=>False
theorem pY (m:Nat):Closed md ops (Array.replicate m false):=by
  intro j i h
  exfalso
  rcases Nat.lt_or_ge j m with hj | hj
  · simp [hj] at h
  · simp [hj] at h
theorem aQ {id:Nat} {a:Act} {w:World} {l:List Oper} (n:Nat) (loud order:List Nat) (S:World→Prop) (hm:P.follows .mixedOrders=true) (hB:Ec .any l.toArray n loud order=true)
    (hS:S w.drew) (h:bZ P l.toArray (Ends Q) S n loud order a w.drew):(Code.region id l.toArray true).wp P Q a w:=by
  simp only [Ec,Bool.and_eq_true,beq_iff_eq] at hB
  obtain ⟨⟨⟨⟨h1,h2⟩,h3⟩,h4⟩,h5⟩:=hB
  have h6:=kP (P:=P) (Q:=Ends Q) h1 h2 h3 (fun _ _ _ hp=>hp) order _ a w.drew h5 (pY _) (fun _=>hS) h
  rw [h4] at h6
  exact Code.wp_mono (fun e a w q=>by cases e <;> first | exact q | exact q.elim) (wp_region_any hm (mX _ _ _ _ h6))
section steps
variable {loud rest:List Nat} {i:Nat} {o:Oper} {a:Act} {w:World}
theorem bI (h:Q .normal a w):bZ P ops (Ends Q) S n loud [] a w:=h
theorem Eb (ho:ops[i]? = some o) (hl:loud.contains i=false) (hw:Region.wanted o (yielded ops a.tmps)=true) (v:Value) (hrun:∀ x,S x→(execOp a.eval o).run P x= .ok (.value v) x)
    (h:bZ P ops Q S n loud rest (a.put o.dst v) w):bZ P ops Q S n loud (i::rest) a w:=by
  simp only [bZ,ho,hl,Bool.false_eq_true,if_false,hw,if_true]
  exact ⟨v,hrun,h⟩
theorem tY (ho:ops[i]? = some o) (hw:Region.wanted o (yielded ops a.tmps)=false) (h:bZ P ops Q S n loud rest (a.put o.dst undef) w) (hl:loud.contains i=false):bZ P ops Q S n loud (i::rest) a w:=by
  simp only [bZ,ho,hl,Bool.false_eq_true,if_false,hw]
  exact h
theorem qP (ho:ops[i]? = some o) (hw:Region.wanted o (yielded ops a.tmps)=false) (hS:S w) (h:bZ P ops Q S n loud rest (a.put o.dst undef) w) (hl:loud.contains i=true):bZ P ops Q S n loud (i::rest) a w:=by
  simp only [bZ,ho,hl,if_true,wpOp,hw,Bool.false_eq_true,if_false]
  exact ⟨fun _=>hS,h⟩
theorem yV (ho:ops[i]? = some o) (hl:loud.contains i=true) (hw:Region.wanted o (yielded ops a.tmps)=true)
    (h:∀ K:Act→World→Prop,(∀ a' w',(i<n→S w')→bZ P ops Q S n loud rest a' w'→K a' w')→o.wp P a w K Q):bZ P ops Q S n loud (i::rest) a w:=by
  simp only [bZ,ho,hl,if_true,wpOp,hw]
  exact .inl (h _ (fun _ _ h1 h2=>⟨h1,h2⟩))
end steps
end
end Go.Dk
