/- Plans of drawn regions with silent operations (their yield hangs on no memory, and nothing but the end waits for them); buffers opened. Plain lemmas over the model; no program. -/
import Derived.Test.YtepbmdlgdaedpaaGreatDoorSp
/- Plans of drawn regions with silent operations (their yield hangs on no memory, and nothing but the end waits for them); buffers opened. Plain lemmas over the model; no program. -/
namespace Go.Dk
open Go Go.RowKit
section
variable {P:Program} {ops:Array Oper} {Q:Exit→Act→World→Prop} {md:Region.Mode} {S:World→Prop} {n:Nat} {sil:List Nat}
def qm (md:Region.Mode) (ops:Array Oper) (n:Nat) (sil:List Nat):Bool :=
  (List.range n).all fun i=>sil.contains i || (List.range (n+1)).any fun j=>decide (i<j) && !sil.contains j && direct md ops j i
theorem qI (hs:qm md ops n sil=true) (hc:chained md ops n=true) {listed:Array Bool} (hcl:Closed md ops listed) {j:Nat} (hjn:n≤j) (hj:j∈Region.ready md ops listed) :
    ∀ i,i<n→sil.contains i=false→listed.getD i false=true:=by
  have hjs:j<ops.size:=by
    obtain ⟨_,o,ho,_⟩:=mem_ready.1 hj
    exact (Array.getElem?_eq_some_iff.1 ho).1
  have step:∀ k,n≤k→k+1<ops.size→direct md ops (k+1) k=true:=fun k hk hlt=>by
    have h1:=List.all_eq_true.1 hc (k+1-n) (by simp; omega)
    simp only [Bool.or_eq_true,beq_iff_eq] at h1
    rcases h1 with h1 | h1
    · omega
    · rw [show n+(k+1-n)=k+1 by omega] at h1
      exact h1
  have down:∀ d k,n≤k→k<j→j-k=d→listed.getD k false=true:=by
    intro d
    induction d using Nat.strongRecOn with
    | _ d ih =>
      intro k hk hkj hd
      by_cases e:k+1=j
      · subst e; exact gy hj (step k hk hjs)
      · exact hcl (k+1) k (ih (j-(k+1)) ag (k+1) ag ag rfl) (step k hk ag)
  have nok:∀ i,direct md ops n i=true→listed.getD i false=true:=fun i hi=>by
    by_cases e:j=n
    · subst e; exact gy hj hi
    · exact hcl n i (down (j-n) n (Ib _) ag rfl) hi
  have main:∀ d i,i<n→n-i=d→sil.contains i=false→listed.getD i false=true:=by
    intro d
    induction d using Nat.strongRecOn with
    | _ d ih =>
      intro i hi hd hsi
      have h1:=List.all_eq_true.1 hs i (by simpa using hi)
      rw [hsi,Bool.false_or] at h1
      obtain ⟨k,hk,h2⟩:=List.any_eq_true.1 h1
      simp only [Bool.and_eq_true,decide_eq_true_eq,Bool.not_eq_true'] at h2
      simp only [List.mem_range] at hk
      by_cases e:k=n
      · subst e; exact nok i h2.2
      · exact hcl k i (ih (n-k) ag k ag rfl h2.1.2) h2.2
  exact fun i hi hsi=>main (n-i) i hi rfl hsi
def wpAnyS (P:Program) (md:Region.Mode) (ops:Array Oper) (Q:Exit→Act→World→Prop) (S:World→Prop) (n:Nat) (sil:List Nat):Nat→Array Bool→Act→World→Prop
  | 0,listed,a,w=>Region.ready md ops listed=[]∧Q .normal a w
  | fuel+1,listed,a,w =>
    (Region.ready md ops listed=[]→Q .normal a w) ∧
    ∀ i∈Region.ready md ops listed,wpOp P ops Q i (fun a' w'=>(i<n→(sil.contains i=true→S w)→S w')∧wpAnyS P md ops Q S n sil fuel (listed.setIfInBounds i true) a' w') a w
theorem ng:∀ (fuel:Nat) (listed:Array Bool) (a:Act) (w:World),wpAnyS P md ops Q S n sil fuel listed a w→wpAny P md ops Q fuel listed a w
  | 0,_,_,_,h=>h
  | fuel+1,_,_,_,h=>⟨h.1,fun i hi=>wpOp_mono (fun a' w' h'=>ng fuel _ a' w' h'.2) (h.2 i hi)⟩
theorem wpAnyS_first {i:Nat} {oi:Oper} {v:Value} (hs:qm md ops n sil=true) (hc:chained md ops n=true) (hin:sil.contains i=true∨i<n) (hi:ops[i]? = some oi)
    (hsel:∀ (j:Nat) (o:Oper) cs b,ops[j]? = some o→o.op≠ .select cs b)
    (hQ:∀ c a w,Q (.panic c) (a.put oi.dst v) w→Q (.panic c) a w) :
    ∀ (fuel:Nat) (listed:Array Bool) (a:Act) (w:World),Closed md ops listed →
      (∀ j oj,ops[j]? = some oj→j≠i→listed.getD j true=false→(∀ e∈oj.after,Region.binds md e=true→e.on≠i)→oi.apart ops oj=true) →
      i∈Region.ready md ops listed→YieldsIf P ops (fun x=>sil.contains i=false→S x) oi v a→(sil.contains i=false→S w) →
      wpAnyS P md ops Q S n sil fuel (listed.setIfInBounds i true) (a.put oi.dst v) w→wpAnyS P md ops Q S n sil (fuel+1) listed a w:=by
  have hD:∀ w,(sil.contains i=false→S w)→i<n→(sil.contains i=true→S w)→S w:=fun w h1 _ h2=>by
    cases hb:sil.contains i with
    | true=>exact h2 hb
    | false=>exact h1 hb
  intro fuel
  induction fuel with
  | zero =>
    intro listed a w _ _ hr hy hS H
    refine ⟨fun h=>(by rw [h] at hr; cases hr),fun j hj=>?_⟩
    by_cases hji:j=i
    · subst hji; exact hy.wpOp hi hS ⟨hD w hS,H⟩
    · have:=ready_mono hj hji
      rw [H.1] at this
      cases this
  | succ fuel ih =>
    intro listed a w hcl hfree hr hy hS H
    refine ⟨fun h=>(by rw [h] at hr; cases hr),fun j hj=>?_⟩
    by_cases hji:j=i
    · subst hji; exact hy.wpOp hi hS ⟨hD w hS,H⟩
    · have h1:=H.2 j (ready_mono hj hji)
      obtain ⟨hjun,oj,hoj,hall⟩:=mem_ready.1 hj
      have hnot:∀ e∈oj.after,Region.binds md e=true→e.on≠i:=fun e he hb heq=>by
        have h1:=hall e he hb
        have h0:=dF (mem_ready.1 hr).1
        rw [heq,h0] at h1
        cases h1
      have h2:=wpOp_putIf hoj (hfree j oj hoj hji hjun hnot) (fun cs b=>hsel i oi cs b hi) (fun cs b=>hsel j oj cs b hoj) hQ hy h1
      have hfree':∀ k ok,ops[k]? = some ok→k≠i→(listed.setIfInBounds j true).getD k true=false →
          (∀ e∈ok.after,Region.binds md e=true→e.on≠i)→oi.apart ops ok=true:=fun k ok hk hki hun hno=>by
        refine hfree k ok hk hki ?_ hno
        by_cases hjk:j=k
        · subst hjk; exact hjun
        · rw [getD_set_ne true hjk] at hun; exact hun
      have hjn:sil.contains i=false→j<n:=fun hsi=>by
        rcases Nat.lt_or_ge j n with h | h
        · exact h
        · rcases hin with h0 | h0
          · rw [hsi] at h0; cases h0
          · have h1:=qI hs hc hcl h hj i h0 hsi
            have h2:=dF (mem_ready.1 hr).1
            rw [h1] at h2; cases h2
      refine wpOp_mono (fun a' w' h3=>⟨h3.2.1,ih (listed.setIfInBounds j true) a' w' (hcl.set hj) hfree' (ready_mono hr (Ne.symm hji)) h3.1 (fun hsi=>h3.2.1 (hjn hsi) (fun _=>hS hsi)) ?_⟩) h2
      rw [Array.setIfInBounds_comm _ _ hji]
      exact h3.2.2
def nJ (md:Region.Mode) (ops:Array Oper) (n:Nat) (sil loud:List Nat):List Nat→Array Bool→Bool
  | [],listed=>(Region.ready md ops listed).isEmpty
  | i::rest,listed =>
    (Region.ready md ops listed).contains i &&
    (if loud.contains i then Region.ready md ops listed == [i] && !sil.contains i && (decide (i<n) || rest.all fun k=>loud.contains k || sil.contains k)
     else (sil.contains i || decide (i<n)) && Region.free md ops listed i) &&
    nJ md ops n sil loud rest (listed.setIfInBounds i true)
def zG (md:Region.Mode) (ops:Array Oper) (n:Nat) (sil loud order:List Nat):Bool :=
  Region.noSelect ops && qm md ops n sil && chained md ops n && order.length == ops.size && nJ md ops n sil loud order (Array.replicate ops.size false)
def dQ (P:Program) (ops:Array Oper) (Q:Exit→Act→World→Prop) (S:World→Prop) (n:Nat) (sil loud:List Nat):List Nat→Act→World→Prop
  | [],a,w=>Q .normal a w
  | i::rest,a,w =>
    match ops[i]? with
    | none=>False
    | some o =>
      if loud.contains i then wpOp P ops Q i (fun a' w'=>(i<n→S w')∧dQ P ops Q S n sil loud rest a' w') a w
      else if Region.wanted o (yielded ops a.tmps) then ∃ v,(∀ x,(sil.contains i=false→S x)→(execOp a.eval o).run P x= .ok (.value v) x)∧dQ P ops Q S n sil loud rest (a.put o.dst v) w
      else dQ P ops Q S n sil loud rest (a.put o.dst undef) w
theorem iP {loud:List Nat} (hsel:Region.noSelect ops=true) (hs:qm md ops n sil=true) (hc:chained md ops n=true) (hQ:∀ c a w,¬ Q (.panic c) a w) :
    ∀ (order:List Nat) (listed:Array Bool) (a:Act) (w:World),nJ md ops n sil loud order listed=true→Closed md ops listed→((order.all fun k=>loud.contains k || sil.contains k)=false→S w) →
      dQ P ops Q S n sil loud order a w→wpAnyS P md ops Q S n sil order.length listed a w
  | [],listed,a,w,hB,_,_,h=>⟨by simpa [nJ] using hB,h⟩
  | i::rest,listed,a,w,hB,hcl,hS,h=>by
    simp only [nJ,Bool.and_eq_true] at hB
    obtain ⟨⟨hr,hk⟩,hB'⟩:=hB
    have hr':i∈Region.ready md ops listed:=by simpa using hr
    simp only [dQ] at h
    cases ho:ops[i]? with
    | none=>simp [ho] at h
    | some o =>
      simp only [ho] at h
      by_cases hl:loud.contains i=true
      · rw [if_pos hl] at h hk
        simp only [Bool.and_eq_true,beq_iff_eq,Bool.or_eq_true,decide_eq_true_eq,Bool.not_eq_true'] at hk
        refine ⟨fun h0=>(by rw [h0] at hr'; cases hr'),fun j hj=>?_⟩
        rw [hk.1.1] at hj
        simp only [List.mem_singleton] at hj
        subst hj
        refine wpOp_mono (fun a' w' h'=>⟨fun hj _=>h'.1 hj,iP hsel hs hc hQ rest _ a' w' hB' (hcl.set hr') (fun hq=>?_) h'.2⟩) h
        rcases hk.2 with h2 | h2
        · exact h'.1 h2
        · rw [show (rest.all fun k=>loud.contains k || sil.contains k)=true from by simpa using h2] at hq; cases hq
      · have hl':loud.contains i=false:=by simpa using hl
        rw [if_neg hl] at h hk
        simp only [Bool.and_eq_true,decide_eq_true_eq,Bool.or_eq_true] at hk
        have hSw:sil.contains i=false→S w:=fun hsi=>hS (by simp only [List.all_cons,hl',hsi,Bool.or_self,Bool.false_and])
        have hrest:(rest.all fun k=>loud.contains k || sil.contains k)=false→S w:=fun hq=>hS (by simp only [List.all_cons,hq,Bool.and_false])
        by_cases hw:Region.wanted o (yielded ops a.tmps)=true
        · rw [if_pos hw] at h
          obtain ⟨v,h1,h2⟩:=h
          exact wpAnyS_first (v:=v) hs hc hk.1 ho (Region.noSelect_spec hsel) (fun c a w hp=>(hQ _ _ _ hp).elim) rest.length listed a w hcl (Region.free_spec ho hk.2) hr' (.inl ⟨hw,h1⟩) hSw
            (iP hsel hs hc hQ rest _ _ w hB' (hcl.set hr') hrest h2)
        · rw [if_neg hw] at h
          exact wpAnyS_first (v:=undef) hs hc hk.1 ho (Region.noSelect_spec hsel) (fun c a w hp=>(hQ _ _ _ hp).elim) rest.length listed a w hcl (Region.free_spec ho hk.2) hr' (.inr ⟨by simpa using hw,rfl⟩) hSw
            (iP hsel hs hc hQ rest _ _ w hB' (hcl.set hr') hrest h)
theorem l9 {id:Nat} {a:Act} {w:World} {l:List Oper} (n:Nat) (sil loud order:List Nat) (S:World→Prop) (hm:P.follows .mixedOrders=true) (hB:zG .any l.toArray n sil loud order=true)
    (hS:S w.drew) (h:dQ P l.toArray (Ends Q) S n sil loud order a w.drew):(Code.region id l.toArray true).wp P Q a w:=by
  simp only [zG,Bool.and_eq_true,beq_iff_eq] at hB
  obtain ⟨⟨⟨⟨h1,h2⟩,h3⟩,h4⟩,h5⟩:=hB
  have h6:=iP (P:=P) (Q:=Ends Q) h1 h2 h3 (fun _ _ _ hp=>hp) order _ a w.drew h5 (lZ _) (fun _=>hS) h
  rw [h4] at h6
  exact Code.wp_mono (fun e a w q=>by cases e <;> first | exact q | exact q.elim) (wp_region_any hm (ng _ _ _ _ h6))
section rules
variable {hd:Nat} {loud rest:List Nat} {i:Nat} {o:Oper} {d m:Nat} {F:List (Nat × Value)} {a:Act} {w:World}
theorem qf (hF:Fr m F a) (ho:ops[i]? = some o) (hl:loud.contains i=false) (hdst:o.dst=some d) (hg:o.guard=none) (hlt:d<m) (v:Value) (y:∀ x,(sil.contains i=false→S x)→Yd P m F o x v)
    (h:∀ a',Fr m ((d,v)::F) a'→dQ P ops Q S hd sil loud rest a' w):dQ P ops Q S hd sil loud (i::rest) a w:=by
  simp only [dQ,ho,hl,Bool.false_eq_true,if_false]
  rw [if_pos (by simp [Region.wanted,hg])]
  refine ⟨v,fun x hx=>y x hx a hF,?_⟩
  rw [hdst]
  exact h _ (hF.put hlt)
theorem FV (hF:Fr m F a) (ho:ops[i]? = some o) (hl:loud.contains i=true) (hdst:o.dst=some d) (hg:o.guard=none) (hlt:d<m) (v:Value) (y:Yd P m F o w v) (hS:i<hd→S w)
    (h:∀ a',Fr m ((d,v)::F) a'→dQ P ops Q S hd sil loud rest a' w):dQ P ops Q S hd sil loud (i::rest) a w:=by
  simp only [dQ,ho,hl,if_true]
  unfold wpOp
  simp only [ho]
  rw [if_pos (by simp [Region.wanted,hg])]
  refine .inl ?_
  unfold Oper.wp
  rw [y a hF,Oper.upon_value,hdst]
  exact ⟨hS,h _ (hF.put hlt)⟩
theorem GK (ho:ops[i]? = some o) (hl:loud.contains i=true) (hg:o.guard=none)
    (h:∀ K:Act→World→Prop,(∀ a' w',(i<hd→S w')→dQ P ops Q S hd sil loud rest a' w'→K a' w')→o.wp P a w K Q):dQ P ops Q S hd sil loud (i::rest) a w:=by
  simp only [dQ,ho,hl,if_true]
  unfold wpOp
  simp only [ho]
  rw [if_pos (by simp [Region.wanted,hg])]
  exact .inl (h _ (fun a' w' h1 h2=>⟨h1,h2⟩))
theorem EJ (h:Q .normal a w):dQ P ops (Ends Q) S n sil loud [] a w:=h
end rules
end
section
variable {e:TypeId} {z m:Nat} {X:Seg} {v:Value} {W:List Value}
theorem Buf.openF (h:Buf e z X v m W) (hm:0<m):∃ g B Z c,v= .slice (some ⟨g,B.length,none⟩) m c∧X=[row g e (B++W++Z)]∧W.length=m*z∧m≤c∧∀ W',W'.length=m*z→Buf e z [row g e (B++W'++Z)] (.slice (some ⟨g,B.length,none⟩) m c) m W':=by
  obtain ⟨hW,h1 | ⟨g,c,B,Z,h1,h2,h3,h4⟩⟩:=h
  · omega
  · exact ⟨g,B,Z,c,h1,h4,hW,h2.1,fun W' hW'=>⟨hW',.inr ⟨g,c,B,Z,rfl,h2,h3,rfl⟩⟩⟩
end
end Go.Dk
