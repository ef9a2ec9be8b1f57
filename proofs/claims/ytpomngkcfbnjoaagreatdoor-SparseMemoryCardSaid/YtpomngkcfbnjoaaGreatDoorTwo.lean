/- Texts that belong together, one behind the other. -/
import Derived.Test.YtpomngkcfbnjoaaGreatDoorLit
import Derived.Test.YtpomngkcfbnjoaaGreatDoorCut
namespace Go.Proofs.YtpomngkcfbnjoaaGreatDoor
open Go.RowKit Go.Dk
@[irreducible] def lit0:List UInt8:=[116,104,101,32,116,104,105,114,100,32,99,97,115,101,32,111,102,32,116,104,101,32,100,111,99,107,101,116]
theorem len0:28=lit0.length:=af
theorem lt0:lit0.length<140737488355328:=by rw [← len0]; decide
@[irreducible] def lit1:List UInt8:=[97,32,100,111,99,107,101,116,32,105,115,32,114,101,97,100,32,102,114,111,109,32,105,116,115,32,102,105,114,115,116,32,101,118,101,110,116,32,116,111,32,105,116,115,32,108,97,115,116,44,32,116,119,105,99,101]
theorem len1:56=lit1.length:=af
@[irreducible] def lit2:List UInt8:=[99,108,101,114,107]
theorem Tt:5=lit2.length:=af
@[irreducible] def lit3:List UInt8:=[104,101,97,100,32,49,50]
theorem Tq:7=lit3.length:=af
@[irreducible] def lit4:List UInt8:=[99,97,115,101]
theorem Tn:4=lit4.length:=af
abbrev hx2:ByteArray:={ data := #[100,99,99,53,97,55,97,56,53,55,53,52,97,57,101,49,56,51,55,98,48,99,98,48,56,55,101,55,97,51,48,55,101,98,48,100,53,48,99,100,51,101,55,57,102,52,53,100,48,53,50,55,100,48,56,57,49,56,99,48,97,54,102,57] }
end Go.Proofs.YtpomngkcfbnjoaaGreatDoor
namespace Go.Dk
open Go Go.RowKit
inductive PT where
  | done
  | op (i:Nat) (r:PT)
  | fork (i j:Nat) (ri rj:PT)
def PT.all (p:Nat→Bool):PT→Bool
  | .done=>true
  | .op i r=>p i && r.all p
  | .fork i j ri rj=>p i && p j && ri.all p && rj.all p
section
variable {P:Program} {ops:Array Oper} {Q:Exit→Act→World→Prop} {md:Region.Mode} {S:World→Prop} {n:Nat}
def mD (md:Region.Mode) (ops:Array Oper) (n:Nat) (loud:List Nat):Nat→PT→Array Bool→Bool
  | 0,.done,listed=>(Region.ready md ops listed).isEmpty
  | f+1,.op i r,listed =>
    (Region.ready md ops listed).contains i &&
    (if loud.contains i then Region.ready md ops listed == [i] && (decide (i<n) || r.all loud.contains)
     else decide (i<n) && Region.free md ops listed i) &&
    mD md ops n loud f r (listed.setIfInBounds i true)
  | f+1,.fork i j ri rj,listed =>
    loud.contains i && loud.contains j && decide (i<n) && decide (j<n) && (Region.ready md ops listed == [i,j]) &&
    mD md ops n loud f ri (listed.setIfInBounds i true) && mD md ops n loud f rj (listed.setIfInBounds j true)
  | _,_,_=>false
def Gq (md:Region.Mode) (ops:Array Oper) (n:Nat) (loud:List Nat) (t:PT):Bool :=
  Region.noSelect ops && sinks md ops n && chained md ops n && mD md ops n loud ops.size t (Array.replicate ops.size false)
def lV (P:Program) (ops:Array Oper) (Q:Exit→Act→World→Prop) (S:World→Prop) (n:Nat) (loud:List Nat):PT→Act→World→Prop
  | .done,a,w=>Q .normal a w
  | .op i r,a,w =>
    match ops[i]? with
    | none=>False
    | some o =>
      if loud.contains i then wpOp P ops Q i (fun a' w'=>(i<n→S w')∧lV P ops Q S n loud r a' w') a w
      else if Region.wanted o (yielded ops a.tmps) then ∃ v,(∀ x,S x→(execOp a.eval o).run P x= .ok (.value v) x)∧lV P ops Q S n loud r (a.put o.dst v) w
      else lV P ops Q S n loud r (a.put o.dst undef) w
  | .fork i j ri rj,a,w =>
    wpOp P ops Q i (fun a' w'=>S w'∧lV P ops Q S n loud ri a' w') a w∧wpOp P ops Q j (fun a' w'=>S w'∧lV P ops Q S n loud rj a' w') a w
theorem Lr {loud:List Nat} (hsel:Region.noSelect ops=true) (hs:sinks md ops n=true) (hc:chained md ops n=true) (hQ:∀ c a w,¬ Q (.panic c) a w) :
    ∀ (fuel:Nat) (t:PT) (listed:Array Bool) (a:Act) (w:World),mD md ops n loud fuel t listed=true→Closed md ops listed→((t.all loud.contains)=false→S w) →
      lV P ops Q S n loud t a w→og P md ops Q S n fuel listed a w:=by
  intro fuel
  induction fuel with
  | zero =>
    intro t listed a w hB _ _ h
    cases t with
    | done=>exact ⟨by simpa [mD] using hB,h⟩
    | op i r=>simp [mD] at hB
    | fork i j ri rj=>simp [mD] at hB
  | succ fuel ih =>
    intro t listed a w hB hcl hS h
    cases t with
    | done=>simp [mD] at hB
    | op i r =>
      simp only [mD,Bool.and_eq_true] at hB
      obtain ⟨⟨hr,hk⟩,hB'⟩:=hB
      have hr':i∈Region.ready md ops listed:=by simpa using hr
      simp only [lV] at h
      cases ho:ops[i]? with
      | none=>simp [ho] at h
      | some o =>
        simp only [ho] at h
        by_cases hl:loud.contains i=true
        · rw [if_pos hl] at h hk
          simp only [Bool.and_eq_true,beq_iff_eq,Bool.or_eq_true,decide_eq_true_eq] at hk
          refine ⟨fun h0=>(by rw [h0] at hr'; cases hr'),fun j hj=>?_⟩
          rw [hk.1] at hj
          simp only [List.mem_singleton] at hj
          subst hj
          refine wpOp_mono (fun a' w' h'=>⟨h'.1,ih r _ a' w' hB' (hcl.set hr') (fun hq=>?_) h'.2⟩) h
          rcases hk.2 with h2 | h2
          · exact h'.1 h2
          · rw [h2] at hq; cases hq
        · have hl':loud.contains i=false:=by simpa using hl
          rw [if_neg hl] at h hk
          simp only [Bool.and_eq_true,decide_eq_true_eq] at hk
          have hSw:S w:=hS (by simp only [PT.all,hl',Bool.false_and])
          have hrest:(r.all loud.contains)=false→S w:=fun _=>hSw
          by_cases hw:Region.wanted o (yielded ops a.tmps)=true
          · rw [if_pos hw] at h
            obtain ⟨v,h1,h2⟩:=h
            exact lG (v:=v) hs hc hk.1 ho (Region.noSelect_spec hsel) (fun c a w hp=>(hQ _ _ _ hp).elim) fuel listed a w hcl (Region.free_spec ho hk.2) hr' (.inl ⟨hw,h1⟩) hSw
              (ih r _ _ w hB' (hcl.set hr') hrest h2)
          · rw [if_neg hw] at h
            exact lG (v:=undef) hs hc hk.1 ho (Region.noSelect_spec hsel) (fun c a w hp=>(hQ _ _ _ hp).elim) fuel listed a w hcl (Region.free_spec ho hk.2) hr' (.inr ⟨by simpa using hw,rfl⟩) hSw
              (ih r _ _ w hB' (hcl.set hr') hrest h)
    | fork i j ri rj =>
      simp only [mD,Bool.and_eq_true,decide_eq_true_eq,beq_iff_eq] at hB
      obtain ⟨⟨⟨⟨⟨⟨_,_⟩,_⟩,_⟩,hr⟩,hBi⟩,hBj⟩:=hB
      have hi:i∈Region.ready md ops listed:=by rw [hr]; simp
      have hj:j∈Region.ready md ops listed:=by rw [hr]; simp
      refine ⟨fun h0=>(by rw [h0] at hi; cases hi),fun k hk=>?_⟩
      rw [hr] at hk
      simp only [List.mem_cons,List.not_mem_nil,or_false] at hk
      rcases hk with rfl | rfl
      · exact wpOp_mono (fun a' w' h'=>⟨fun _=>h'.1,ih ri _ a' w' hBi (hcl.set hi) (fun _=>h'.1) h'.2⟩) h.1
      · exact wpOp_mono (fun a' w' h'=>⟨fun _=>h'.1,ih rj _ a' w' hBj (hcl.set hj) (fun _=>h'.1) h'.2⟩) h.2
theorem lU {id:Nat} {a:Act} {w:World} {l:List Oper} (n:Nat) (loud:List Nat) (t:PT) (S:World→Prop) (hm:P.follows .mixedOrders=true) (hB:Gq .any l.toArray n loud t=true)
    (hS:S w.drew) (h:lV P l.toArray (Ends Q) S n loud t a w.drew):(Code.region id l.toArray true).wp P Q a w:=by
  simp only [Gq,Bool.and_eq_true] at hB
  obtain ⟨⟨⟨h1,h2⟩,h3⟩,h5⟩:=hB
  have h6:=Lr (P:=P) (Q:=Ends Q) h1 h2 h3 (fun _ _ _ hp=>hp) _ t _ a w.drew h5 (o8 _) (fun _=>hS) h
  exact Code.wp_mono (fun e a w q=>by cases e <;> first | exact q | exact q.elim) (wp_region_any hm (nZ _ _ _ _ h6))
end
section
variable {P:Program} {Q:Exit→Act→World→Prop} {w w0:World} {n:Nat} {F:List (Nat × Value)} {a:Act}
variable {ops:Array Oper} {S:World→Prop} {hd:Nat} {loud:List Nat} {rest ri rj:PT} {i j:Nat} {o o':Oper} {d:Nat}
theorem tY (h:Q .normal a w):lV P ops (Ends Q) S n loud .done a w:=h
theorem SN (ho:ops[i]? = some o) (hl:loud.contains i=true) (hw:Region.wanted o (yielded ops a.tmps)=true)
    (h:∀ K:Act→World→Prop,(∀ a' w',(i<hd→S w')→lV P ops Q S hd loud rest a' w'→K a' w')→o.wp P a w K Q):lV P ops Q S hd loud (.op i rest) a w:=by
  simp only [lV,ho,hl,if_true,wpOp,hw]
  exact .inl (h _ (fun _ _ h1 h2=>⟨h1,h2⟩))
theorem lH (hF:Fr n F a) (ho:ops[i]? = some o) (hl:loud.contains i=false) (hdst:o.dst=some d) (hg:o.guard=none) (hlt:d<n) (v:Value) (y:∀ x,S x→Yd P n F o x v)
    (h:∀ a',Fr n ((d,v)::F) a'→lV P ops Q S hd loud rest a' w):lV P ops Q S hd loud (.op i rest) a w:=by
  have hw:Region.wanted o (yielded ops a.tmps)=true:=by simp [Region.wanted,hg]
  simp only [lV,ho,hl,Bool.false_eq_true,if_false,hw,if_true]
  refine ⟨v,fun x hx=>y x hx a hF,?_⟩
  rw [hdst]
  exact h _ (hF.put hlt)
theorem Qw (hF:Fr n F a) (ho:ops[i]? = some o) (hl:loud.contains i=true) (hdst:o.dst=some d) (hg:o.guard=none) (hlt:d<n) (v:Value) (y:Yd P n F o w v) (hS:i<hd→S w)
    (h:∀ a',Fr n ((d,v)::F) a'→lV P ops Q S hd loud rest a' w):lV P ops Q S hd loud (.op i rest) a w:=by
  refine SN ho hl (by simp [Region.wanted,hg]) (fun K hK=>?_)
  unfold Oper.wp
  rw [y a hF,Oper.upon_value,hdst]
  exact hK _ _ hS (h _ (hF.put hlt))
theorem rf (ho:ops[i]? = some o) (hl:loud.contains i=true) (hg:o.guard=none)
    (h:∀ K:Act→World→Prop,(∀ a' w',(i<hd→S w')→lV P ops Q S hd loud rest a' w'→K a' w')→o.wp P a w K Q):lV P ops Q S hd loud (.op i rest) a w :=
  SN ho hl (by simp [Region.wanted,hg]) h
theorem zK (ho:ops[i]? = some o) (ho':ops[j]? = some o') (hg:o.guard=none) (hg':o'.guard=none)
    (h:∀ K:Act→World→Prop,(∀ a' w',S w'→lV P ops Q S hd loud ri a' w'→K a' w')→o.wp P a w K Q)
    (h':∀ K:Act→World→Prop,(∀ a' w',S w'→lV P ops Q S hd loud rj a' w'→K a' w')→o'.wp P a w K Q):lV P ops Q S hd loud (.fork i j ri rj) a w:=by
  have hw:Region.wanted o (yielded ops a.tmps)=true:=by simp [Region.wanted,hg]
  have hw':Region.wanted o' (yielded ops a.tmps)=true:=by simp [Region.wanted,hg']
  simp only [lV,wpOp,ho,ho',hw,hw',if_true]
  exact ⟨.inl (h _ (fun _ _ h1 h2=>⟨h1,h2⟩)),.inl (h' _ (fun _ _ h1 h2=>⟨h1,h2⟩))⟩
end
end Go.Dk
