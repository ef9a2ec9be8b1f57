/- Regions that draw their order where two loud operations may come in either order: a plan that forks. Plain lemmas over the model; no program. -/
import Derived.Test.YtepbmdlgdaedpaaGreatDoorVs
/- Regions that draw their order where two loud operations may come in either order: a plan that forks. Plain lemmas over the model; no program. -/
namespace Go.Dk
open Go Go.RowKit
inductive PT where
  | done
  | op (i:Nat) (r:PT)
  | fork (i j:Nat) (ri rj:PT)
def PT.all (p:Nat→Bool):PT→Bool
  | .done=>true
  | .op i r=>p i && r.all p
  | .fork i j ri rj=>p i && p j && ri.all p && rj.all p
section
variable {P:Program} {ops:Array Oper} {Q:Exit→Act→World→Prop} {md:Region.Mode} {S:World→Prop} {n:Nat}
def iU (md:Region.Mode) (ops:Array Oper) (n:Nat) (loud:List Nat):Nat→PT→Array Bool→Bool
  | 0,.done,listed=>(Region.ready md ops listed).isEmpty
  | f+1,.op i r,listed =>
    (Region.ready md ops listed).contains i &&
    (if loud.contains i then Region.ready md ops listed == [i] && (decide (i<n) || r.all loud.contains)
     else decide (i<n) && Region.free md ops listed i) &&
    iU md ops n loud f r (listed.setIfInBounds i true)
  | f+1,.fork i j ri rj,listed =>
    loud.contains i && loud.contains j && decide (i<n) && decide (j<n) && (Region.ready md ops listed == [i,j]) &&
    iU md ops n loud f ri (listed.setIfInBounds i true) && iU md ops n loud f rj (listed.setIfInBounds j true)
  | _,_,_=>false
def xy (md:Region.Mode) (ops:Array Oper) (n:Nat) (loud:List Nat) (t:PT):Bool :=
  Region.noSelect ops && sinks md ops n && chained md ops n && iU md ops n loud ops.size t (Array.replicate ops.size false)
def iQ (P:Program) (ops:Array Oper) (Q:Exit→Act→World→Prop) (S:World→Prop) (n:Nat) (loud:List Nat):PT→Act→World→Prop
  | .done,a,w=>Q .normal a w
  | .op i r,a,w =>
    match ops[i]? with
    | none=>False
    | some o =>
      if loud.contains i then wpOp P ops Q i (fun a' w'=>(i<n→S w')∧iQ P ops Q S n loud r a' w') a w
      else if Region.wanted o (yielded ops a.tmps) then ∃ v,(∀ x,S x→(execOp a.eval o).run P x= .ok (.value v) x)∧iQ P ops Q S n loud r (a.put o.dst v) w
      else iQ P ops Q S n loud r (a.put o.dst undef) w
  | .fork i j ri rj,a,w =>
    wpOp P ops Q i (fun a' w'=>S w'∧iQ P ops Q S n loud ri a' w') a w∧wpOp P ops Q j (fun a' w'=>S w'∧iQ P ops Q S n loud rj a' w') a w
theorem Bd {loud:List Nat} (hsel:Region.noSelect ops=true) (hs:sinks md ops n=true) (hc:chained md ops n=true) (hQ:∀ c a w,¬ Q (.panic c) a w) :
    ∀ (fuel:Nat) (t:PT) (listed:Array Bool) (a:Act) (w:World),iU md ops n loud fuel t listed=true→Closed md ops listed→((t.all loud.contains)=false→S w) →
      iQ P ops Q S n loud t a w→lN P md ops Q S n fuel listed a w:=by
  intro fuel
  induction fuel with
  | zero =>
    intro t listed a w hB _ _ h
    cases t with
    | done=>exact ⟨by simpa [iU] using hB,h⟩
    | op i r=>simp [iU] at hB
    | fork i j ri rj=>simp [iU] at hB
  | succ fuel ih =>
    intro t listed a w hB hcl hS h
    cases t with
    | done=>simp [iU] at hB
    | op i r =>
      simp only [iU,Bool.and_eq_true] at hB
      obtain ⟨⟨hr,hk⟩,hB'⟩:=hB
      have hr':i∈Region.ready md ops listed:=by simpa using hr
      simp only [iQ] at h
      cases ho:ops[i]? with
      | none=>simp [ho] at h
      | some o =>
        simp only [ho] at h
        by_cases hl:loud.contains i=true
        · rw [if_pos hl] at h hk
          simp only [Bool.and_eq_true,beq_iff_eq,Bool.or_eq_true,decide_eq_true_eq] at hk
          refine ⟨fun h0=>(by rw [h0] at hr'; cases hr'),fun j hj=>?_⟩
          rw [hk.1] at hj
          simp only [List.mem_singleton] at hj
          subst hj
          refine wpOp_mono (fun a' w' h'=>⟨h'.1,ih r _ a' w' hB' (hcl.set hr') (fun hq=>?_) h'.2⟩) h
          rcases hk.2 with h2 | h2
          · exact h'.1 h2
          · rw [h2] at hq; cases hq
        · have hl':loud.contains i=false:=by simpa using hl
          rw [if_neg hl] at h hk
          simp only [Bool.and_eq_true,decide_eq_true_eq] at hk
          have hSw:S w:=hS (by simp only [PT.all,hl',Bool.false_and])
          have hrest:(r.all loud.contains)=false→S w:=fun _=>hSw
          by_cases hw:Region.wanted o (yielded ops a.tmps)=true
          · rw [if_pos hw] at h
            obtain ⟨v,h1,h2⟩:=h
            exact iH (v:=v) hs hc hk.1 ho (Region.noSelect_spec hsel) (fun c a w hp=>(hQ _ _ _ hp).elim) fuel listed a w hcl (Region.free_spec ho hk.2) hr' (.inl ⟨hw,h1⟩) hSw
              (ih r _ _ w hB' (hcl.set hr') hrest h2)
          · rw [if_neg hw] at h
            exact iH (v:=undef) hs hc hk.1 ho (Region.noSelect_spec hsel) (fun c a w hp=>(hQ _ _ _ hp).elim) fuel listed a w hcl (Region.free_spec ho hk.2) hr' (.inr ⟨by simpa using hw,rfl⟩) hSw
              (ih r _ _ w hB' (hcl.set hr') hrest h)
    | fork i j ri rj =>
      simp only [iU,Bool.and_eq_true,decide_eq_true_eq,beq_iff_eq] at hB
      obtain ⟨⟨⟨⟨⟨⟨_,_⟩,_⟩,_⟩,hr⟩,hBi⟩,hBj⟩:=hB
      have hi:i∈Region.ready md ops listed:=by rw [hr]; simp
      have hj:j∈Region.ready md ops listed:=by rw [hr]; simp
      refine ⟨fun h0=>(by rw [h0] at hi; cases hi),fun k hk=>?_⟩
      rw [hr] at hk
      simp only [List.mem_cons,List.not_mem_nil,or_false] at hk
      rcases hk with rfl | rfl
      · exact wpOp_mono (fun a' w' h'=>⟨fun _=>h'.1,ih ri _ a' w' hBi (hcl.set hi) (fun _=>h'.1) h'.2⟩) h.1
      · exact wpOp_mono (fun a' w' h'=>⟨fun _=>h'.1,ih rj _ a' w' hBj (hcl.set hj) (fun _=>h'.1) h'.2⟩) h.2
theorem nK {id:Nat} {a:Act} {w:World} {l:List Oper} (n:Nat) (loud:List Nat) (t:PT) (S:World→Prop) (hm:P.follows .mixedOrders=true) (hB:xy .any l.toArray n loud t=true)
    (hS:S w.drew) (h:iQ P l.toArray (Ends Q) S n loud t a w.drew):(Code.region id l.toArray true).wp P Q a w:=by
  simp only [xy,Bool.and_eq_true] at hB
  obtain ⟨⟨⟨h1,h2⟩,h3⟩,h5⟩:=hB
  have h6:=Bd (P:=P) (Q:=Ends Q) h1 h2 h3 (fun _ _ _ hp=>hp) _ t _ a w.drew h5 (mV _) (fun _=>hS) h
  exact Code.wp_mono (fun e a w q=>by cases e <;> first | exact q | exact q.elim) (wp_region_any hm (kR _ _ _ _ h6))
end
section
variable {P:Program} {Q:Exit→Act→World→Prop} {w w0:World} {n:Nat} {F:List (Nat × Value)} {a:Act}
variable {ops:Array Oper} {S:World→Prop} {hd:Nat} {loud:List Nat} {rest ri rj:PT} {i j:Nat} {o o':Oper} {d:Nat}
theorem Be (h:Q .normal a w):iQ P ops (Ends Q) S n loud .done a w:=h
theorem IP (ho:ops[i]? = some o) (hl:loud.contains i=true) (hw:Region.wanted o (yielded ops a.tmps)=true)
    (h:∀ K:Act→World→Prop,(∀ a' w',(i<hd→S w')→iQ P ops Q S hd loud rest a' w'→K a' w')→o.wp P a w K Q):iQ P ops Q S hd loud (.op i rest) a w:=by
  simp only [iQ,ho,hl,if_true,wpOp,hw]
  exact .inl (h _ (fun _ _ h1 h2=>⟨h1,h2⟩))
theorem Aj (hF:Fr n F a) (ho:ops[i]? = some o) (hl:loud.contains i=false) (hdst:o.dst=some d) (hg:o.guard=none) (hlt:d<n) (v:Value) (y:∀ x,S x→Yd P n F o x v)
    (h:∀ a',Fr n ((d,v)::F) a'→iQ P ops Q S hd loud rest a' w):iQ P ops Q S hd loud (.op i rest) a w:=by
  have hw:Region.wanted o (yielded ops a.tmps)=true:=by simp [Region.wanted,hg]
  simp only [iQ,ho,hl,Bool.false_eq_true,if_false,hw,if_true]
  refine ⟨v,fun x hx=>y x hx a hF,?_⟩
  rw [hdst]
  exact h _ (hF.put hlt)
theorem Gi (hF:Fr n F a) (ho:ops[i]? = some o) (hl:loud.contains i=true) (hdst:o.dst=some d) (hg:o.guard=none) (hlt:d<n) (v:Value) (y:Yd P n F o w v) (hS:i<hd→S w)
    (h:∀ a',Fr n ((d,v)::F) a'→iQ P ops Q S hd loud rest a' w):iQ P ops Q S hd loud (.op i rest) a w:=by
  refine IP ho hl (by simp [Region.wanted,hg]) (fun K hK=>?_)
  unfold Oper.wp
  rw [y a hF,Oper.upon_value,hdst]
  exact hK _ _ hS (h _ (hF.put hlt))
theorem D6 (ho:ops[i]? = some o) (hl:loud.contains i=true) (hg:o.guard=none)
    (h:∀ K:Act→World→Prop,(∀ a' w',(i<hd→S w')→iQ P ops Q S hd loud rest a' w'→K a' w')→o.wp P a w K Q):iQ P ops Q S hd loud (.op i rest) a w :=
  IP ho hl (by simp [Region.wanted,hg]) h
theorem D7 (ho:ops[i]? = some o) (ho':ops[j]? = some o') (hg:o.guard=none) (hg':o'.guard=none)
    (h:∀ K:Act→World→Prop,(∀ a' w',S w'→iQ P ops Q S hd loud ri a' w'→K a' w')→o.wp P a w K Q)
    (h':∀ K:Act→World→Prop,(∀ a' w',S w'→iQ P ops Q S hd loud rj a' w'→K a' w')→o'.wp P a w K Q):iQ P ops Q S hd loud (.fork i j ri rj) a w:=by
  have hw:Region.wanted o (yielded ops a.tmps)=true:=by simp [Region.wanted,hg]
  have hw':Region.wanted o' (yielded ops a.tmps)=true:=by simp [Region.wanted,hg']
  simp only [iQ,wpOp,ho,ho',hw,hw',if_true]
  exact ⟨.inl (h _ (fun _ _ h1 h2=>⟨h1,h2⟩)),.inl (h' _ (fun _ _ h1 h2=>⟨h1,h2⟩))⟩
end
end Go.Dk
