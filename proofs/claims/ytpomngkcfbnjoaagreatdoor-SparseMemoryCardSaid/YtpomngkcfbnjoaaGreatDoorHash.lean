/- Texts that belong together, one behind the other. -/
import Derived.Test.YtpomngkcfbnjoaaGreatDoorMem
import Derived.OrdersHeld
import Derived.Tactics
import Derived.Tactics2
import Derived.KernelRfl
import Derived.Laws.World
import Derived.Test.YtpomngkcfbnjoaaGreatDoorOpenS
namespace Go.Dk
open Go
section
variable {P:Program} {ops:Array Oper} {Q:Exit→Act→World→Prop} {md:Region.Mode} {S:World→Prop} {n:Nat}
def direct (md:Region.Mode) (ops:Array Oper) (j i:Nat):Bool :=
  match ops[j]? with
  | none=>false
  | some o=>o.after.any fun e=>Region.binds md e && e.on == i
def sinks (md:Region.Mode) (ops:Array Oper) (n:Nat):Bool :=
  (List.range n).all fun i=>(List.range (n+1)).any fun j=>decide (i<j) && direct md ops j i
def chained (md:Region.Mode) (ops:Array Oper) (n:Nat):Bool :=
  (List.range (ops.size-n)).all fun k=>k == 0 || direct md ops (n+k) (n+k-1)
def Closed (md:Region.Mode) (ops:Array Oper) (listed:Array Bool):Prop :=
  ∀ j i,listed.getD j false=true→direct md ops j i=true→listed.getD i false=true
theorem Dw {j i:Nat} (h:direct md ops j i=true):∃ o,ops[j]? = some o∧∃ e∈o.after,Region.binds md e=true∧e.on=i:=by
  unfold direct at h
  cases ho:ops[j]? with
  | none=>simp [ho] at h
  | some o =>
    simp only [ho] at h
    obtain ⟨e,he,hb⟩:=Array.any_eq_true'.1 h
    simp only [Bool.and_eq_true,beq_iff_eq] at hb
    exact ⟨o,rfl,e,he,hb.1,hb.2⟩
theorem ou {j i:Nat} {listed:Array Bool} (hj:j∈Region.ready md ops listed) (h:direct md ops j i=true):listed.getD i false=true:=by
  obtain ⟨_,o,ho,hall⟩:=mem_ready.1 hj
  obtain ⟨o',ho',e,he,hb,rfl⟩:=Dw h
  rw [ho] at ho'
  injection ho' with ho'
  subst ho'
  exact hall e he hb
theorem MM {listed:Array Bool} {i j:Nat} (h:(listed.setIfInBounds i true).getD j false=true):j=i∨listed.getD j false=true:=by
  by_cases e:i=j
  · exact .inl e.symm
  · rw [getD_set_ne false e] at h; exact .inr h
theorem Closed.set {i:Nat} {listed:Array Bool} (h:Closed md ops listed) (hi:i∈Region.ready md ops listed):Closed md ops (listed.setIfInBounds i true):=by
  intro j k hj hd
  rcases MM hj with rfl | hj
  · exact getD_set_true (ou hi hd)
  · exact getD_set_true (h j k hj hd)
theorem iJ {listed:Array Bool} {i:Nat} (h:listed.getD i true=false):listed.getD i false=false:=by
  rcases Nat.lt_or_ge i listed.size with hlt | hge
  · simpa [hlt] using h
  · simp [Array.getElem?_eq_none hge] at h
theorem Dn (hs:sinks md ops n=true) (hc:chained md ops n=true) {listed:Array Bool} (hcl:Closed md ops listed) {j:Nat} (hjn:n≤j) (hj:j∈Region.ready md ops listed) :
    ∀ i,i<n→listed.getD i false=true:=by
  have hjs:j<ops.size:=by
    obtain ⟨_,o,ho,_⟩:=mem_ready.1 hj
    exact (Array.getElem?_eq_some_iff.1 ho).1
  have step:∀ k,n≤k→k+1<ops.size→direct md ops (k+1) k=true:=fun k hk hlt=>by
    have h1:=List.all_eq_true.1 hc (k+1-n) (by simp; omega)
    simp only [Bool.or_eq_true,beq_iff_eq] at h1
    rcases h1 with h1 | h1
    · omega
    · rw [show n+(k+1-n)=k+1 by omega] at h1
      exact h1

  have down:∀ d k,n≤k→k<j→j-k=d→listed.getD k false=true:=by
    intro d
    induction d using Nat.strongRecOn with
    | _ d ih =>
      intro k hk hkj hd
      by_cases e:k+1=j
      · subst e; exact ou hj (step k hk hjs)
      · exact hcl (k+1) k (ih (j-(k+1)) ag (k+1) ag ag rfl) (step k hk ag)
  have nok:∀ i,direct md ops n i=true→listed.getD i false=true:=fun i hi=>by
    by_cases e:j=n
    · subst e; exact ou hj hi
    · exact hcl n i (down (j-n) n (TG _) ag rfl) hi
  intro i hi
  have main:∀ d i,i<n→n-i=d→listed.getD i false=true:=by
    intro d
    induction d using Nat.strongRecOn with
    | _ d ih =>
      intro i hi hd
      have h1:=List.all_eq_true.1 hs i (by simpa using hi)
      obtain ⟨k,hk,h2⟩:=List.any_eq_true.1 h1
      simp only [Bool.and_eq_true,decide_eq_true_eq] at h2
      simp only [List.mem_range] at hk
      by_cases e:k=n
      · subst e; exact nok i h2.2
      · exact hcl k i (ih (n-k) ag k ag rfl) h2.2
  exact main (n-i) i hi rfl
def og (P:Program) (md:Region.Mode) (ops:Array Oper) (Q:Exit→Act→World→Prop) (S:World→Prop) (n:Nat):Nat→Array Bool→Act→World→Prop
  | 0,listed,a,w=>Region.ready md ops listed=[]∧Q .normal a w
  | fuel+1,listed,a,w =>
    (Region.ready md ops listed=[]→Q .normal a w) ∧
    ∀ i∈Region.ready md ops listed,wpOp P ops Q i (fun a' w'=>(i<n→S w')∧og P md ops Q S n fuel (listed.setIfInBounds i true) a' w') a w
theorem nZ:∀ (fuel:Nat) (listed:Array Bool) (a:Act) (w:World),og P md ops Q S n fuel listed a w→wpAny P md ops Q fuel listed a w
  | 0,_,_,_,h=>h
  | fuel+1,_,_,_,h=>⟨h.1,fun i hi=>wpOp_mono (fun a' w' h'=>nZ fuel _ a' w' h'.2) (h.2 i hi)⟩
theorem lG {i:Nat} {oi:Oper} {v:Value} (hs:sinks md ops n=true) (hc:chained md ops n=true) (hin:i<n) (hi:ops[i]? = some oi)
    (hsel:∀ (j:Nat) (o:Oper) cs b,ops[j]? = some o→o.op≠ .select cs b)
    (hQ:∀ c a w,Q (.panic c) (a.put oi.dst v) w→Q (.panic c) a w) :
    ∀ (fuel:Nat) (listed:Array Bool) (a:Act) (w:World),Closed md ops listed →
      (∀ j oj,ops[j]? = some oj→j≠i→listed.getD j true=false→(∀ e∈oj.after,Region.binds md e=true→e.on≠i)→oi.apart ops oj=true) →
      i∈Region.ready md ops listed→YieldsIf P ops S oi v a→S w →
      og P md ops Q S n fuel (listed.setIfInBounds i true) (a.put oi.dst v) w→og P md ops Q S n (fuel+1) listed a w:=by
  intro fuel
  induction fuel with
  | zero =>
    intro listed a w _ _ hr hy hS H
    refine ⟨fun h=>(by rw [h] at hr; cases hr),fun j hj=>?_⟩
    by_cases hji:j=i
    · subst hji; exact hy.wpOp hi hS ⟨fun _=>hS,H⟩
    · have:=ready_mono hj hji
      rw [H.1] at this
      cases this
  | succ fuel ih =>
    intro listed a w hcl hfree hr hy hS H
    refine ⟨fun h=>(by rw [h] at hr; cases hr),fun j hj=>?_⟩
    by_cases hji:j=i
    · subst hji; exact hy.wpOp hi hS ⟨fun _=>hS,H⟩
    · have hjn:j<n:=by
        rcases Nat.lt_or_ge j n with h | h
        · exact h
        · have h1:=Dn hs hc hcl h hj i hin
          have h2:=iJ (mem_ready.1 hr).1
          rw [h1] at h2; cases h2
      have h1:=H.2 j (ready_mono hj hji)
      obtain ⟨hjun,oj,hoj,hall⟩:=mem_ready.1 hj
      have hnot:∀ e∈oj.after,Region.binds md e=true→e.on≠i:=fun e he hb heq=>by
        have h1:=hall e he hb
        have h0:=iJ (mem_ready.1 hr).1
        rw [heq,h0] at h1
        cases h1
      have h2:=wpOp_putIf hoj (hfree j oj hoj hji hjun hnot) (fun cs b=>hsel i oi cs b hi) (fun cs b=>hsel j oj cs b hoj) hQ hy h1
      have hfree':∀ k ok,ops[k]? = some ok→k≠i→(listed.setIfInBounds j true).getD k true=false →
          (∀ e∈ok.after,Region.binds md e=true→e.on≠i)→oi.apart ops ok=true:=fun k ok hk hki hun hno=>by
        refine hfree k ok hk hki ?_ hno
        by_cases hjk:j=k
        · subst hjk; exact hjun
        · rw [getD_set_ne true hjk] at hun; exact hun
      refine wpOp_mono (fun a' w' h3=>⟨h3.2.1,ih (listed.setIfInBounds j true) a' w' (hcl.set hj) hfree' (ready_mono hr (Ne.symm hji)) h3.1 (h3.2.1 hjn) ?_⟩) h2
      rw [Array.setIfInBounds_comm _ _ hji]
      exact h3.2.2
def rM (md:Region.Mode) (ops:Array Oper) (n:Nat) (loud:List Nat):List Nat→Array Bool→Bool
  | [],listed=>(Region.ready md ops listed).isEmpty
  | i::rest,listed =>
    (Region.ready md ops listed).contains i &&
    (if loud.contains i then Region.ready md ops listed == [i] && (decide (i<n) || rest.all loud.contains)
     else decide (i<n) && Region.free md ops listed i) &&
    rM md ops n loud rest (listed.setIfInBounds i true)
def LG (md:Region.Mode) (ops:Array Oper) (n:Nat) (loud order:List Nat):Bool :=
  Region.noSelect ops && sinks md ops n && chained md ops n && order.length == ops.size && rM md ops n loud order (Array.replicate ops.size false)
def dw (P:Program) (ops:Array Oper) (Q:Exit→Act→World→Prop) (S:World→Prop) (n:Nat) (loud:List Nat):List Nat→Act→World→Prop
  | [],a,w=>Q .normal a w
  | i::rest,a,w =>
    match ops[i]? with
    | none=>False
    | some o =>
      if loud.contains i then wpOp P ops Q i (fun a' w'=>(i<n→S w')∧dw P ops Q S n loud rest a' w') a w
      else if Region.wanted o (yielded ops a.tmps) then ∃ v,(∀ x,S x→(execOp a.eval o).run P x= .ok (.value v) x)∧dw P ops Q S n loud rest (a.put o.dst v) w
      else dw P ops Q S n loud rest (a.put o.dst undef) w
theorem oz {loud:List Nat} (hsel:Region.noSelect ops=true) (hs:sinks md ops n=true) (hc:chained md ops n=true) (hQ:∀ c a w,¬ Q (.panic c) a w) :
    ∀ (order:List Nat) (listed:Array Bool) (a:Act) (w:World),rM md ops n loud order listed=true→Closed md ops listed→((order.all loud.contains)=false→S w) →
      dw P ops Q S n loud order a w→og P md ops Q S n order.length listed a w
  | [],listed,a,w,hB,_,_,h=>⟨by simpa [rM] using hB,h⟩
  | i::rest,listed,a,w,hB,hcl,hS,h=>by
    simp only [rM,Bool.and_eq_true] at hB
    obtain ⟨⟨hr,hk⟩,hB'⟩:=hB
    have hr':i∈Region.ready md ops listed:=by simpa using hr
    simp only [dw] at h
    cases ho:ops[i]? with
    | none=>simp [ho] at h
    | some o =>
      simp only [ho] at h
      by_cases hl:loud.contains i=true
      · rw [if_pos hl] at h hk
        simp only [Bool.and_eq_true,beq_iff_eq,Bool.or_eq_true,decide_eq_true_eq] at hk
        refine ⟨fun h0=>(by rw [h0] at hr'; cases hr'),fun j hj=>?_⟩
        rw [hk.1] at hj
        simp only [List.mem_singleton] at hj
        subst hj
        refine wpOp_mono (fun a' w' h'=>⟨h'.1,oz hsel hs hc hQ rest _ a' w' hB' (hcl.set hr') (fun hq=>?_) h'.2⟩) h
        rcases hk.2 with h2 | h2
        · exact h'.1 h2
        · rw [h2] at hq; cases hq
      · have hl':loud.contains i=false:=by simpa using hl
        rw [if_neg hl] at h hk
        simp only [Bool.and_eq_true,decide_eq_true_eq] at hk
        have hSw:S w:=hS (by simp only [List.all_cons,hl',Bool.false_and])
        have hrest:(rest.all loud.contains)=false→S w:=fun _=>hSw
        by_cases hw:Region.wanted o (yielded ops a.tmps)=true
        · rw [if_pos hw] at h
          obtain ⟨v,h1,h2⟩:=h
          exact lG (v:=v) hs hc hk.1 ho (Region.noSelect_spec hsel) (fun c a w hp=>(hQ _ _ _ hp).elim) rest.length listed a w hcl (Region.free_spec ho hk.2) hr' (.inl ⟨hw,h1⟩) hSw
            (oz hsel hs hc hQ rest _ _ w hB' (hcl.set hr') hrest h2)
        · rw [if_neg hw] at h
          exact lG (v:=undef) hs hc hk.1 ho (Region.noSelect_spec hsel) (fun c a w hp=>(hQ _ _ _ hp).elim) rest.length listed a w hcl (Region.free_spec ho hk.2) hr' (.inr ⟨by simpa using hw,rfl⟩) hSw
            (oz hsel hs hc hQ rest _ _ w hB' (hcl.set hr') hrest h)
def Ends (Q:Exit→Act→World→Prop):Exit→Act→World→Prop
  | .normal,a,w=>Q .normal a w
  | .outgrown,a,w=>Q .outgrown a w
  | _,_,_=>False
theorem o8 (m:Nat):Closed md ops (Array.replicate m false):=by
  intro j i h
  exfalso
  rcases Nat.lt_or_ge j m with hj | hj
  · simp [hj] at h
  · simp [hj] at h
theorem ak {id:Nat} {a:Act} {w:World} {l:List Oper} (n:Nat) (loud order:List Nat) (S:World→Prop) (hm:P.follows .mixedOrders=true) (hB:LG .any l.toArray n loud order=true)
    (hS:S w.drew) (h:dw P l.toArray (Ends Q) S n loud order a w.drew):(Code.region id l.toArray true).wp P Q a w:=by
  simp only [LG,Bool.and_eq_true,beq_iff_eq] at hB
  obtain ⟨⟨⟨⟨h1,h2⟩,h3⟩,h4⟩,h5⟩:=hB
  have h6:=oz (P:=P) (Q:=Ends Q) h1 h2 h3 (fun _ _ _ hp=>hp) order _ a w.drew h5 (o8 _) (fun _=>hS) h
  rw [h4] at h6
  exact Code.wp_mono (fun e a w q=>by cases e <;> first | exact q | exact q.elim) (wp_region_any hm (nZ _ _ _ _ h6))
section steps
variable {loud rest:List Nat} {i:Nat} {o:Oper} {a:Act} {w:World}
theorem aB (h:Q .normal a w):dw P ops (Ends Q) S n loud [] a w:=h
theorem fK (ho:ops[i]? = some o) (hl:loud.contains i=false) (hw:Region.wanted o (yielded ops a.tmps)=true) (v:Value) (hrun:∀ x,S x→(execOp a.eval o).run P x= .ok (.value v) x)
    (h:dw P ops Q S n loud rest (a.put o.dst v) w):dw P ops Q S n loud (i::rest) a w:=by
  simp only [dw,ho,hl,Bool.false_eq_true,if_false,hw,if_true]
  exact ⟨v,hrun,h⟩
theorem Iz (ho:ops[i]? = some o) (hw:Region.wanted o (yielded ops a.tmps)=false) (h:dw P ops Q S n loud rest (a.put o.dst undef) w) (hl:loud.contains i=false):dw P ops Q S n loud (i::rest) a w:=by
  simp only [dw,ho,hl,Bool.false_eq_true,if_false,hw]
  exact h
theorem xn (ho:ops[i]? = some o) (hw:Region.wanted o (yielded ops a.tmps)=false) (hS:S w) (h:dw P ops Q S n loud rest (a.put o.dst undef) w) (hl:loud.contains i=true):dw P ops Q S n loud (i::rest) a w:=by
  simp only [dw,ho,hl,if_true,wpOp,hw,Bool.false_eq_true,if_false]
  exact ⟨fun _=>hS,h⟩
theorem ay (ho:ops[i]? = some o) (hl:loud.contains i=false)
    (h:∀ K:Act→Prop,(∀ a',dw P ops Q S n loud rest a' w→K a')→if Region.wanted o (yielded ops a.tmps) then (∃ v,(∀ x:{ x // S x },(execOp a.eval o).run P x.1= .ok (.value v) x.1)∧K (a.put o.dst v)) else K (a.put o.dst undef)) :
    dw P ops Q S n loud (i::rest) a w:=by
  simp only [dw,ho,hl,Bool.false_eq_true,if_false]
  have h1:=h _ (fun _ h=>h)
  split
  · rename_i hw
    rw [if_pos hw] at h1
    obtain ⟨v,h2,h3⟩:=h1
    exact ⟨v,fun x hx=>h2 ⟨x,hx⟩,h3⟩
  · rename_i hw
    rw [if_neg hw] at h1
    exact h1
theorem gG (ho:ops[i]? = some o) (hl:loud.contains i=true) (hw:Region.wanted o (yielded ops a.tmps)=true)
    (h:∀ K:Act→World→Prop,(∀ a' w',(i<n→S w')→dw P ops Q S n loud rest a' w'→K a' w')→o.wp P a w K Q):dw P ops Q S n loud (i::rest) a w:=by
  simp only [dw,ho,hl,if_true,wpOp,hw]
  exact .inl (h _ (fun _ _ h1 h2=>⟨h1,h2⟩))
end steps
end
end Go.Dk
namespace Go.Dk
open Go
theorem tu (a b:Nat):add32 a b<4294967296:=Nat.mod_lt _ ae
theorem oP (st:List Nat) (bs:List UInt8):(compress st bs).length=8:=by simp [compress]
theorem DF (st:List Nat) (bs:List UInt8):∀ x∈compress st bs,x<4294967296:=by
  intro x hx
  simp only [compress,List.mem_map] at hx
  obtain ⟨i,_,rfl⟩:=hx
  exact tu _ _
theorem bF (n:Nat) (st:List Nat) (bs:List UInt8) (h:st.length=8):(blocks n st bs).length=8:=by
  induction n generalizing st bs with
  | zero=>exact h
  | succ n ih=>exact ih _ _ (oP _ _)
theorem qh (n:Nat) (st:List Nat) (bs:List UInt8) (h:∀ x∈st,x<4294967296):∀ x∈blocks n st bs,x<4294967296:=by
  induction n generalizing st bs with
  | zero=>exact h
  | succ n ih=>exact ih _ _ (DF _ _)
theorem qU (n:Nat) (st:List Nat) (bs:List UInt8):blocks (n+1) st bs=compress (blocks n st bs) ((bs.drop (64*n)).take 64):=by
  induction n generalizing st bs with
  | zero=>simp [blocks]
  | succ n ih =>
    have h1:blocks (n+1+1) st bs=blocks (n+1) (compress st (bs.take 64)) (bs.drop 64):=rfl
    have h2:blocks (n+1) st bs=blocks n (compress st (bs.take 64)) (bs.drop 64):=rfl
    rw [h1,ih,h2,List.drop_drop,show 64+64*n=64*(n+1) by omega]
theorem ig (n:Nat) (st:List Nat) (a b:List UInt8) (h:64*n≤a.length):blocks n st (a++b)=blocks n st a:=by
  induction n generalizing st a with
  | zero=>rfl
  | succ n ih =>
    show blocks n (compress st ((a++b).take 64)) ((a++b).drop 64)=blocks n (compress st (a.take 64)) (a.drop 64)
    rw [List.take_append_of_le_length ag,List.drop_append_of_le_length ag]
    exact ih _ _ (by simp; omega)
theorem sH:init8.length=8:=rfl
theorem sG:∀ x∈init8,x<4294967296:=ae
def wc (l:List Nat):List Value:=l.map fun x:Nat=>Value.int .u32 (x:Int)
theorem bU (l:List Nat):(wc l).length=l.length:=by simp [wc]
theorem oQ {l:List Nat} {i:Nat} (h:i<l.length):(wc l)[i]? = some (.int .u32 (wAt l i:Nat)):=by simp [wc,wAt,h]
def hcells (st:List Nat) (rest:List UInt8) (n:Nat):List Value:=wc st++(dc rest++[.int .u64 (n:Int)])
section
variable {st st':List Nat} {rest rest':List UInt8} {n n':Nat}
theorem fC (h:st.length=8) (h':rest.length=64):(hcells st rest n).length=73:=by simp [hcells,bU,aj,h,h']
theorem jk (h:st.length=8) (h':rest.length=64):(hcells st rest n)[72]? = some (.int .u64 (n:Int)):=by
  unfold hcells
  rw [List.getElem?_append_right (by rw [bU,h]; decide),bU,h,List.getElem?_append_right (by rw [aj,h']; decide),aj,h']
  rfl
theorem jQ (h:st.length=8) (h':rest.length=64):(hcells st rest n).set 72 (.int .u64 (n':Int))=hcells st rest n':=by
  unfold hcells
  rw [List.set_append,if_neg (by rw [bU,h]; decide),bU,h,List.set_append,if_neg (by rw [aj,h']; decide),aj,h']
  rfl
theorem zu (h:st.length=8):((hcells st rest n).drop 0).take 8=wc st:=by
  unfold hcells
  rw [List.drop_zero,List.take_append_of_le_length (by rw [bU,h]; decide),TJ (by rw [bU,h]; decide)]
theorem yF (h:st.length=8) (h2:st'.length=8):splice (hcells st rest n) 0 (wc st')=hcells st' rest n:=by
  unfold splice hcells
  rw [bU,h2,List.take_zero,List.nil_append,Nat.zero_add,List.drop_append_of_le_length (by rw [bU,h]; decide),List.drop_of_length_le (by rw [bU,h]; decide),List.nil_append]
theorem AC (h:st.length=8) {i:Nat} (hi:i<8):(hcells st rest n)[0+i]? = some (.int .u32 (wAt st i:Nat)):=by
  unfold hcells
  rw [Nat.zero_add,List.getElem?_append_left (by rw [bU,h]; exact hi),oQ (by rw [h]; exact hi)]
theorem Dp (h:st.length=8) (h':rest.length=64):((hcells st rest n).drop 8).take rest.length=dc rest:=by
  unfold hcells
  rw [List.drop_append_of_le_length (by rw [bU,h]; decide),List.drop_of_length_le (by rw [bU,h]; decide),List.nil_append,List.take_append_of_le_length (by rw [aj,h']; decide),TJ (by rw [aj]; exact TG _)]
def put (rest:List UInt8) (o:Nat) (l:List UInt8):List UInt8:=rest.take o++l++rest.drop (o+l.length)
theorem mi {o:Nat} {l:List UInt8} (h:o+l.length≤rest.length):(put rest o l).length=rest.length:=by simp [put]; omega
theorem qN {o:Nat} {l:List UInt8} (h:st.length=8) (h':rest.length=64) (hl:o+l.length≤64):splice (hcells st rest n) (8+o) (dc l)=hcells st (put rest o l) n:=by
  unfold splice hcells put
  rw [eG,eG,aj]
  rw [List.take_append,bU,h,show 8+o-8=o by omega,TJ (by rw [bU,h]; omega),List.take_append_of_le_length (by rw [aj,h']; omega),dc_take]
  rw [List.drop_append,bU,h,List.drop_of_length_le (by rw [bU,h]; omega),List.nil_append,show 8+o+l.length-8=o+l.length by omega,List.drop_append_of_le_length (by rw [aj,h']; omega),GM]
  simp only [List.append_assoc]
end
def HS (m:List UInt8) (cs:List Value):Prop :=
  ∃ rest:List UInt8,rest.length=64∧rest.take (m.length%64)=m.drop (m.length/64*64)∧cs=hcells (blocks (m.length/64) init8 m) rest m.length
theorem HS.new:HS [] (hcells init8 (List.replicate 64 0) 0):=⟨List.replicate 64 0,by simp,by simp,rfl⟩
theorem HS.tail (m l:List UInt8) (rest:List UInt8) (hr:rest.length=64) (hm:m.length%64=0) (hl:l.length<64) :
    HS (m++l) (hcells (blocks (m.length/64) init8 m) (put rest 0 l) (m.length+l.length)):=by
  have e1:(m++l).length/64=m.length/64:=by rw [List.length_append]; omega
  have e2:(m++l).length%64=l.length:=by rw [List.length_append]; omega
  have e3:m.length/64*64=m.length:=by omega
  refine ⟨put rest 0 l,by rw [mi ag,hr],?_,?_⟩
  · rw [e2,e1,e3]
    simp [put]
  · rw [e1,ig _ _ _ _ ag,List.length_append]
theorem HS.part (m l:List UInt8) (rest:List UInt8) (hr:rest.length=64) (ht:rest.take (m.length%64)=m.drop (m.length/64*64)) (hl:m.length%64+l.length<64) :
    HS (m++l) (hcells (blocks (m.length/64) init8 m) (put rest (m.length%64) l) (m.length+l.length)):=by
  have e1:(m++l).length/64=m.length/64:=by rw [List.length_append]; omega
  have e2:(m++l).length%64=m.length%64+l.length:=by rw [List.length_append]; omega
  refine ⟨put rest (m.length%64) l,by rw [mi ag,hr],?_,?_⟩
  · rw [e2,e1,List.drop_append_of_le_length ag,← ht]
    unfold put
    rw [List.take_append_of_le_length (by simp; omega),TJ (by simp; omega)]
  · rw [e1,ig _ _ _ _ ag,List.length_append]
theorem fills (m l:List UInt8) (rest:List UInt8) (hr:rest.length=64) (ht:rest.take (m.length%64)=m.drop (m.length/64*64)) (hl:m.length%64+l.length=64) :
    compress (blocks (m.length/64) init8 m) (put rest (m.length%64) l)=blocks ((m++l).length/64) init8 (m++l)∧(m++l).length%64=0:=by
  have e1:(m++l).length/64=m.length/64+1:=by rw [List.length_append]; omega
  refine ⟨?_,by rw [List.length_append]; omega⟩
  rw [e1,qU,ig _ _ _ _ ag]
  congr 1
  have h1:put rest (m.length%64) l=m.drop (m.length/64*64)++l:=by
    unfold put
    have h2:rest.drop 64=[]:=List.drop_of_length_le ag
    rw [ht,hl,h2,List.append_nil]
  rw [h1,List.drop_append_of_le_length ag,TJ (by simp; omega),Nat.mul_comm]
theorem yc (m l:List UInt8) (j:Nat) (hm:m.length%64=0) :
    compress (blocks (m.length/64+j) init8 (m++l)) ((l.drop (64*j)).take 64)=blocks (m.length/64+(j+1)) init8 (m++l):=by
  rw [← Nat.add_assoc,qU]
  congr 2
  have h2:m.drop (64*(m.length/64+j))=[]:=List.drop_of_length_le ag
  rw [List.drop_append,h2,List.nil_append]
  congr 1
  omega
end Go.Dk
