/- A plan without a tail: each operation of a region leaves the condition of the worlds. Plain lemmas over the model; no program. -/
import Derived.Test.YtpomngkcfbnjoaaGreatDoorHash
/- A plan without a tail: each operation of a region leaves the condition of the worlds. Plain lemmas over the model; no program. -/
namespace Go.Dk
open Go
section
variable {P:Program} {md:Region.Mode} {ops:Array Oper} {Q:Exit→Act→World→Prop} {S:World→Prop} {n:Nat}
theorem ql {i:Nat} {oi:Oper} {v:Value} (hn:n=ops.size) (hi:ops[i]? = some oi)
    (hsel:∀ (j:Nat) (o:Oper) cs b,ops[j]? = some o→o.op≠ .select cs b)
    (hQ:∀ c a w,Q (.panic c) (a.put oi.dst v) w→Q (.panic c) a w) :
    ∀ (fuel:Nat) (listed:Array Bool) (a:Act) (w:World),Closed md ops listed →
      (∀ j oj,ops[j]? = some oj→j≠i→listed.getD j true=false→(∀ e∈oj.after,Region.binds md e=true→e.on≠i)→oi.apart ops oj=true) →
      i∈Region.ready md ops listed→YieldsIf P ops S oi v a→S w →
      og P md ops Q S n fuel (listed.setIfInBounds i true) (a.put oi.dst v) w→og P md ops Q S n (fuel+1) listed a w:=by
  intro fuel
  induction fuel with
  | zero =>
    intro listed a w _ _ hr hy hS H
    refine ⟨fun h=>(by rw [h] at hr; cases hr),fun j hj=>?_⟩
    by_cases hji:j=i
    · subst hji; exact hy.wpOp hi hS ⟨fun _=>hS,H⟩
    · have:=ready_mono hj hji
      rw [H.1] at this
      cases this
  | succ fuel ih =>
    intro listed a w hcl hfree hr hy hS H
    refine ⟨fun h=>(by rw [h] at hr; cases hr),fun j hj=>?_⟩
    by_cases hji:j=i
    · subst hji; exact hy.wpOp hi hS ⟨fun _=>hS,H⟩
    · have hjn:j<n:=by
        obtain ⟨_,o,ho,_⟩:=mem_ready.1 hj
        rw [hn]
        exact (Array.getElem?_eq_some_iff.1 ho).1
      have h1:=H.2 j (ready_mono hj hji)
      obtain ⟨hjun,oj,hoj,hall⟩:=mem_ready.1 hj
      have hnot:∀ e∈oj.after,Region.binds md e=true→e.on≠i:=fun e he hb heq=>by
        have h1:=hall e he hb
        have h0:=iJ (mem_ready.1 hr).1
        rw [heq,h0] at h1
        cases h1
      have h2:=wpOp_putIf hoj (hfree j oj hoj hji hjun hnot) (fun cs b=>hsel i oi cs b hi) (fun cs b=>hsel j oj cs b hoj) hQ hy h1
      have hfree':∀ k ok,ops[k]? = some ok→k≠i→(listed.setIfInBounds j true).getD k true=false →
          (∀ e∈ok.after,Region.binds md e=true→e.on≠i)→oi.apart ops ok=true:=fun k ok hk hki hun hno=>by
        refine hfree k ok hk hki ?_ hno
        by_cases hjk:j=k
        · subst hjk; exact hjun
        · rw [getD_set_ne true hjk] at hun; exact hun
      refine wpOp_mono (fun a' w' h3=>⟨h3.2.1,ih (listed.setIfInBounds j true) a' w' (hcl.set hj) hfree' (ready_mono hr (Ne.symm hji)) h3.1 (h3.2.1 hjn) ?_⟩) h2
      rw [Array.setIfInBounds_comm _ _ hji]
      exact h3.2.2
def LH (md:Region.Mode) (ops:Array Oper) (n:Nat) (loud order:List Nat):Bool :=
  Region.noSelect ops && n == ops.size && order.length == ops.size && rM md ops n loud order (Array.replicate ops.size false)
theorem ni {loud:List Nat} (hsel:Region.noSelect ops=true) (hn:n=ops.size) (hQ:∀ c a w,¬ Q (.panic c) a w) :
    ∀ (order:List Nat) (listed:Array Bool) (a:Act) (w:World),rM md ops n loud order listed=true→Closed md ops listed→S w →
      dw P ops Q S n loud order a w→og P md ops Q S n order.length listed a w
  | [],listed,a,w,hB,_,_,h=>⟨by simpa [rM] using hB,h⟩
  | i::rest,listed,a,w,hB,hcl,hS,h=>by
    simp only [rM,Bool.and_eq_true] at hB
    obtain ⟨⟨hr,hk⟩,hB'⟩:=hB
    have hr':i∈Region.ready md ops listed:=by simpa using hr
    simp only [dw] at h
    cases ho:ops[i]? with
    | none=>simp [ho] at h
    | some o =>
      simp only [ho] at h
      have hin:i<n:=by rw [hn]; exact (Array.getElem?_eq_some_iff.1 ho).1
      by_cases hl:loud.contains i=true
      · rw [if_pos hl] at h hk
        simp only [Bool.and_eq_true,beq_iff_eq,Bool.or_eq_true,decide_eq_true_eq] at hk
        refine ⟨fun h0=>(by rw [h0] at hr'; cases hr'),fun j hj=>?_⟩
        rw [hk.1] at hj
        simp only [List.mem_singleton] at hj
        subst hj
        exact wpOp_mono (fun a' w' h'=>⟨h'.1,ni hsel hn hQ rest _ a' w' hB' (hcl.set hr') (h'.1 hin) h'.2⟩) h
      · rw [if_neg hl] at h hk
        simp only [Bool.and_eq_true,decide_eq_true_eq] at hk
        by_cases hw:Region.wanted o (yielded ops a.tmps)=true
        · rw [if_pos hw] at h
          obtain ⟨v,h1,h2⟩:=h
          exact ql (v:=v) hn ho (Region.noSelect_spec hsel) (fun c a w hp=>(hQ _ _ _ hp).elim) rest.length listed a w hcl (Region.free_spec ho hk.2) hr' (.inl ⟨hw,h1⟩) hS
            (ni hsel hn hQ rest _ _ w hB' (hcl.set hr') hS h2)
        · rw [if_neg hw] at h
          exact ql (v:=undef) hn ho (Region.noSelect_spec hsel) (fun c a w hp=>(hQ _ _ _ hp).elim) rest.length listed a w hcl (Region.free_spec ho hk.2) hr' (.inr ⟨by simpa using hw,rfl⟩) hS
            (ni hsel hn hQ rest _ _ w hB' (hcl.set hr') hS h)
theorem uK {id:Nat} {a:Act} {w:World} {l:List Oper} (n:Nat) (loud order:List Nat) (S:World→Prop) (hm:P.follows .mixedOrders=true) (hB:LH .any l.toArray n loud order=true)
    (hS:S w.drew) (h:dw P l.toArray (Ends Q) S n loud order a w.drew):(Code.region id l.toArray true).wp P Q a w:=by
  simp only [LH,Bool.and_eq_true,beq_iff_eq] at hB
  obtain ⟨⟨⟨h1,h2⟩,h4⟩,h5⟩:=hB
  have h6:=ni (P:=P) (Q:=Ends Q) h1 h2 (fun _ _ _ hp=>hp) order _ a w.drew h5 (o8 _) hS h
  rw [h4] at h6
  exact Code.wp_mono (fun e a w q=>by cases e <;> first | exact q | exact q.elim) (wp_region_any hm (nZ _ _ _ _ h6))
end
end Go.Dk
