/- Texts that belong together, one behind the other. -/
import Derived.Test.YtepbmdlgdaedpaaGreatDoorVc
import Derived.Great.BuildSlice
import Derived.Lib.SlBytesConst
namespace Go.Dk
open Go Go.RowKit
section
variable {P:Program} {Q:Exit→Act→World→Prop} {w w0:World} {n:Nat} {F:List (Nat × Value)} {a:Act}
variable {o:Oper} {d:Nat} {K:Act→World→Prop} {L:List Row} {t:TypeId} {x y:Operand} {v:Value}
inductive BoundF (F:List (Nat × Value)):Option Operand→Nat→Nat→Prop
  | none (k:Nat):BoundF F none k k
  | some {x:Operand} {kd:IntKind} {p:Int} {k dflt:Nat} (hx:ev F x=some (.int kd p)) (hp:p=k):BoundF F (some x) dflt k
theorem BoundF.bound {lo:Option Operand} {dflt k:Nat} (h:BoundF F lo dflt k) (hF:Fr n F a):jy (lo.map a.eval) dflt k:=by
  cases h with
  | none=>exact wE _
  | some hx hp =>
    subst hp
    rw [Option.map_some,hF.ev hx]
    exact wC _ _ _
theorem dW {e:TypeId} {lo hi:Option Operand} {size:Nat} {A:Option Addr} {len cap l h:Nat} (ho:o.op= .slice t x lo hi none) (hu:P.underlying t=some (.slice e)) (hs:(P.info? e).map (·.size)=some size)
    (hx:ev F x=some (.slice A len cap)) (hlo:BoundF F lo 0 l) (hhi:BoundF F hi len h) (h1:l≤h) (h2:h≤cap) (hv:Value.slice (sub A l cap size) (h-l) (cap-l)=v):Yd P n F o w v:=fun _ hF =>
  xk ho hu hs (hF.ev hx) l h (hlo.bound hF) (hhi.bound hF) h1 h2 hv
theorem qy {e:TypeId} {lo hi:Option Operand} {m size:Nat} {ad:Addr} {l h:Nat} (ho:o.op= .slice t x lo hi none) (hu:P.underlying t=some (.array m e)) (hs:(P.info? e).map (·.size)=some size)
    (hx:ev F x=some (.pointer (some ad))) (hlo:BoundF F lo 0 l) (hhi:BoundF F hi m h) (h1:l≤h) (h2:h≤m) (hv:Value.slice (sub (some ad) l m size) (h-l) (m-l)=v):Yd P n F o w v:=fun _ hF =>
  uI ho hu hs (hF.ev hx) l h (hlo.bound hF) (hhi.bound hF) h1 h2 hv
theorem jc {A:Option Addr} {h cap size:Nat}:Value.slice (sub A 0 cap size) (h-0) (cap-0)= .slice A h cap:=by rw [sub_zero]; rfl
theorem ig {ts e:TypeId} {A:Option Addr} {m c:Nat} (ho:o.op= .call { callee:= .builtin .cap,args := #[x],argTypes := #[ts] }) (hu:P.underlying ts=some (.slice e)) (hx:ev F x=some (.slice A m c)):Yd P n F o w (.int .i64 (c:Int)):=fun a hF=>by
  unfold execOp
  simp only [ho,hF.ev hx,resolve,invoke,builtin,Builtin.cap_,List.map_toArray,List.map_cons,List.map_nil,Sem.run_bind,Sem.run_pure,Result.andThen_ok,run_underlying hu w,List.getElem?_toArray,List.getElem?_cons_zero,goInt]
theorem KR {t' e:TypeId} {m:Nat} {X Y:List UInt8} (ho:o.op= .binOp .neq t x y t') (hu:P.underlying t=some (.array m e)) (he:P.underlying e=some (.int .u8)) (hs:(P.info? e).map (·.size)=some 1) (hm:P.eqGuardType P.depth t=false)
    (hx:ev F x=some (.agg (dc X).toArray)) (hy:ev F y=some (.agg (dc Y).toArray)) (hX:X.length=m) (hY:Y.length=m) {c:Bool} (hc:(!decide (X=Y))=c):Yd P n F o w (.bool c):=fun _ hF=>by
  subst hc; exact oP ho e m X Y (hF.ev hx) (hF.ev hy) hu he hs hX hY hm
theorem eX (ho:o.op= .build t #[]) (hr:∀ w,(Instr.build t #[]).run P w= .ok v w):Yd P n F o w v:=fun a _=>by
  unfold execOp
  simp only [ho,Sem.run_bind]
  have h1:(Instr.build t (Array.map (fun x:Nat × Operand=>(x.1,a.eval x.2)) #[])).run P w= .ok v w:=by simpa using hr w
  simp only [h1,Result.andThen_ok,Sem.run_pure]
theorem wK {t':TypeId} (ho:o.op= .binOp .eql t x y t') (hu:P.underlying t=some (.pointer (P.pointee t))) (hx:ev F x=some (.pointer none)) (hy:ev F y=some (.pointer none)):Yd P n F o w (.bool true):=fun a hF=>by
  unfold execOp
  simp only [ho,hF.ev hx,hF.ev hy,Sem.run_bind]
  have h1:(eqGuard .eql t x y (.pointer none) (.pointer none)).run P w= .ok () w:=rfl
  rw [h1]
  simp only [Result.andThen_ok]
  rw [run_eql_pointer_nil w t none hu]
  rfl
theorem uy {k:IntKind} {p r:Int} (ho:o.op= .unOp .xor t x) (hx:ev F x=some (.int k p)) (hr:bits .xor k (if k.signed then -1 else k.max) p=r):Yd P n F o w (.int k r):=fun a hF=>by
  subst hr
  unfold execOp
  simp only [ho,hF.ev hx,Sem.run_bind,Op.unary,intBits_xor,Sem.run_pure,Result.andThen_ok]
theorem aN {vs:Array Value} {i:Nat} (ho:o.op= .extract x i) (hx:ev F x=some (.tuple vs)) (hv:vs[i]? = some v):Yd P n F o w v:=fun a hF=>by
  unfold execOp
  simp only [ho,hF.ev hx,Instr.extract,hv,Sem.run_bind,Sem.run_pure,Result.andThen_ok]
def bJ (b:BinOp) (l m:List UInt8):Bool:=match b with
  | .eql=>l == m
  | .neq => !(l == m)
  | .lss=>Op.bytesLess l m
  | .leq=>Op.bytesLess l m || l == m
  | .gtr => !(Op.bytesLess l m || l == m)
  | .geq => !(Op.bytesLess l m)
  | _=>false
theorem fA {b:BinOp} {c:Bool} {t':TypeId} {s u:ByteArray} (ho:o.op= .binOp b t x y t') (hb:Am b=true) (hx:ev F x=some (.string s)) (hy:ev F y=some (.string u)) (hr:bJ b s.data.toList u.data.toList=c):Yd P n F o w (.bool c):=fun a hF=>by
  have h0:(eqGuard b t x y (.string s) (.string u)).run P w= .ok () w:=by unfold eqGuard; split <;> rfl
  subst hr; unfold execOp; simp only [ho,hF.ev hx,hF.ev hy,Sem.run_bind,h0,Result.andThen_ok]
  cases b <;> first | (simp [Am] at hb; done) | simp [binOp,Op.stringOp,bJ,ByteArray.toList_eq]
theorem l7 {t' e:TypeId} {A:Option Addr} {c m:Nat} {l:List UInt8} (ho:o.op= .convert t t' x) (hu:P.underlying t=some (.slice e)) (he:P.underlying e=some (.int .u8)) (hd:P.underlying t'=some .string)
    (hx:ev F x=some (.slice A m c)) (hn:m=l.length) (hr:Bts w A l):Yd P n F o w (.string ⟨l.toArray⟩):=fun a hF=>by
  by_cases hl:l=[]
  · subst hl
    subst hn
    have h:(convert t t' (.slice A 0 c)).run P w= .ok (.string ⟨([]:List UInt8).toArray⟩) w:=by
      cases A with
      | none=>rw [run_convert_bytes_string w t t' e none 0 c hu he hd]; rfl
      | some ad=>exact run_convert_bytes_back w t t' e ad c [] hu he hd (fun j hj=>absurd hj (Nat.not_lt_zero _))
    unfold execOp
    simp only [ho,hF.ev hx,Sem.run_bind,List.length_nil,h,Result.andThen_ok,Sem.run_pure]
  · exact qc ho hu he hd (hF.ev hx) hn hl hr
theorem Dt {u:Value} {i:Nat} (ho:o.op= .build t #[(i,x)]) (hx:ev F x=some u) (hr:∀ w,(Instr.build t #[(i,u)]).run P w= .ok v w):Yd P n F o w v:=fun a hF=>by
  unfold execOp
  simp only [ho,Sem.run_bind]
  have h1:(Instr.build t (Array.map (fun x:Nat × Operand=>(x.1,a.eval x.2)) #[(i,x)])).run P w= .ok v w:=by simpa [hF.ev hx] using hr w
  simp only [h1,Result.andThen_ok,Sem.run_pure]
theorem gy {t':TypeId} {ad:Addr} (ho:o.op= .binOp .eql t x y t') (hu:P.underlying t=some (.pointer (P.pointee t))) (hx:ev F x=some (.pointer (some ad))) (hy:ev F y=some (.pointer none)):Yd P n F o w (.bool false):=fun a hF=>by
  unfold execOp
  simp only [ho,hF.ev hx,hF.ev hy,Sem.run_bind]
  have h1:(eqGuard .eql t x y (.pointer (some ad)) (.pointer none)).run P w= .ok () w:=rfl
  rw [h1]
  simp only [Result.andThen_ok]
  rw [run_eql_pointer_nil w t (some ad) hu]
  rfl
theorem GL {tx ty e:TypeId} (hF:Fr n F a) (hd:o.dst=some d) (hlt:d<n) (ho:o.op= .call { callee:= .builtin .copy,args := #[x,y],argTypes := #[tx,ty] }) (hA:At w0 L w)
    (hu:P.underlying tx=some (.slice e)) (hs:(P.info? e).map (·.size)=some 1) {D A:Option Addr} {dLen dc' sLen sc:Nat} (hx:ev F x=some (.slice D dLen dc')) (hy:ev F y=some (.slice A sLen sc))
    (l:List UInt8) (hl:l.length=Nat.min sLen dLen) (hr:Bts w A l) {g:Nat} (off:Nat) (k:Nat) {te:TypeId} {cs:List Value} (hk:L[k]? = some (g,te,cs)) (hD:0<l.length→D=some ⟨g,off,none⟩) (hfit:off+l.length≤cs.length)
    (h:∀ w' a',Fr n ((d,.int .i64 (l.length:Nat))::F) a'→At w0 (L.set k (g,te,splice cs off (dc l))) w'→K a' w'):o.wp P a w K Q :=
  GN ho hA hu hs (hF.ev hx) (hF.ev hy) hl hr k hk hD hfit (fun w' hw=>by rw [hd]; exact h w' _ (hF.put hlt) hw)
theorem aG {c:Operand} {x y:Code} {b:Bool} (hF:Fr n F a) (hc:ev F c=some (.bool b)) (hb:b=true) (h:x.wp P Q a w):(Code.cond c x y).wp P Q a w:=gz hF (by rw [hc,hb]) h
theorem au {c:Operand} {x y:Code} {b:Bool} (hF:Fr n F a) (hc:ev F c=some (.bool b)) (hb:b=false) (h:y.wp P Q a w):(Code.cond c x y).wp P Q a w:=dn hF (by rw [hc,hb]) h
theorem H7 {w:World} {g:Nat} {t:TypeId} {cs:List Value} (h:w.heap.size≤g):∀ r∈[((g,t,cs):Row)],w.heap.size≤r.1:=by
  intro r hr; simp only [List.mem_cons,List.not_mem_nil,or_false] at hr; subst hr; exact h
theorem Du {e:TypeId} (hF:Fr n F a) (hd:o.dst=some d) (hlt:d<n) (ho:o.op= .buildSlice t 1 #[(0,x)]) (hA:At w0 L w) (b:UInt8) (hx:ev F x=some (.int .u8 (b.toNat:Int)))
    (hr:∀ (d:Int) (w:World),(Instr.buildSlice t 1 #[(0,.int .u8 d)]).run P w= .ok (.slice (some ⟨w.heap.size,0,none⟩) 1 1) (w.alloc (.cells #[.int .u8 d] e)))
    (h:∀ g w' a',w.heap.size≤g→Fr n ((d,.slice (some ⟨g,0,none⟩) 1 1)::F) a'→At w0 ((g,e,dc [b])::L) w'→K a' w'):o.wp P a w K Q :=
  JG ho hA (hF.ev hx) (hr _ w) (fun g w' hg hw=>by rw [hd]; exact h g w' _ hg (hF.put hlt) hw)
end
end Go.Dk
namespace Go.Dk
open Go Go.RowKit
inductive PT where
  | done
  | op (i:Nat) (r:PT)
  | fork (i j:Nat) (ri rj:PT)
def PT.all (p:Nat→Bool):PT→Bool
  | .done=>true
  | .op i r=>p i && r.all p
  | .fork i j ri rj=>p i && p j && ri.all p && rj.all p
section
variable {P:Program} {ops:Array Oper} {Q:Exit→Act→World→Prop} {md:Region.Mode} {S:World→Prop} {n:Nat}
def jG (md:Region.Mode) (ops:Array Oper) (n:Nat) (loud:List Nat):Nat→PT→Array Bool→Bool
  | 0,.done,listed=>(Region.ready md ops listed).isEmpty
  | f+1,.op i r,listed =>
    (Region.ready md ops listed).contains i &&
    (if loud.contains i then Region.ready md ops listed == [i] && (decide (i<n) || r.all loud.contains)
     else decide (i<n) && Region.free md ops listed i) &&
    jG md ops n loud f r (listed.setIfInBounds i true)
  | f+1,.fork i j ri rj,listed =>
    loud.contains i && loud.contains j && decide (i<n) && decide (j<n) && (Region.ready md ops listed == [i,j]) &&
    jG md ops n loud f ri (listed.setIfInBounds i true) && jG md ops n loud f rj (listed.setIfInBounds j true)
  | _,_,_=>false
def Aa (md:Region.Mode) (ops:Array Oper) (n:Nat) (loud:List Nat) (t:PT):Bool :=
  Region.noSelect ops && sinks md ops n && chained md ops n && jG md ops n loud ops.size t (Array.replicate ops.size false)
def jD (P:Program) (ops:Array Oper) (Q:Exit→Act→World→Prop) (S:World→Prop) (n:Nat) (loud:List Nat):PT→Act→World→Prop
  | .done,a,w=>Q .normal a w
  | .op i r,a,w =>
    match ops[i]? with
    | none=>False
    | some o =>
      if loud.contains i then wpOp P ops Q i (fun a' w'=>(i<n→S w')∧jD P ops Q S n loud r a' w') a w
      else if Region.wanted o (yielded ops a.tmps) then ∃ v,(∀ x,S x→(execOp a.eval o).run P x= .ok (.value v) x)∧jD P ops Q S n loud r (a.put o.dst v) w
      else jD P ops Q S n loud r (a.put o.dst undef) w
  | .fork i j ri rj,a,w =>
    wpOp P ops Q i (fun a' w'=>S w'∧jD P ops Q S n loud ri a' w') a w∧wpOp P ops Q j (fun a' w'=>S w'∧jD P ops Q S n loud rj a' w') a w
theorem D9 {loud:List Nat} (hsel:Region.noSelect ops=true) (hs:sinks md ops n=true) (hc:chained md ops n=true) (hQ:∀ c a w,¬ Q (.panic c) a w) :
    ∀ (fuel:Nat) (t:PT) (listed:Array Bool) (a:Act) (w:World),jG md ops n loud fuel t listed=true→Closed md ops listed→((t.all loud.contains)=false→S w) →
      jD P ops Q S n loud t a w→oN P md ops Q S n fuel listed a w:=by
  intro fuel
  induction fuel with
  | zero =>
    intro t listed a w hB _ _ h
    cases t with
    | done=>exact ⟨by simpa [jG] using hB,h⟩
    | op i r=>simp [jG] at hB
    | fork i j ri rj=>simp [jG] at hB
  | succ fuel ih =>
    intro t listed a w hB hcl hS h
    cases t with
    | done=>simp [jG] at hB
    | op i r =>
      simp only [jG,Bool.and_eq_true] at hB
      obtain ⟨⟨hr,hk⟩,hB'⟩:=hB
      have hr':i∈Region.ready md ops listed:=by simpa using hr
      simp only [jD] at h
      cases ho:ops[i]? with
      | none=>simp [ho] at h
      | some o =>
        simp only [ho] at h
        by_cases hl:loud.contains i=true
        · rw [if_pos hl] at h hk
          simp only [Bool.and_eq_true,beq_iff_eq,Bool.or_eq_true,decide_eq_true_eq] at hk
          refine ⟨fun h0=>(by rw [h0] at hr'; cases hr'),fun j hj=>?_⟩
          rw [hk.1] at hj
          simp only [List.mem_singleton] at hj
          subst hj
          refine wpOp_mono (fun a' w' h'=>⟨h'.1,ih r _ a' w' hB' (hcl.set hr') (fun hq=>?_) h'.2⟩) h
          rcases hk.2 with h2 | h2
          · exact h'.1 h2
          · rw [h2] at hq; cases hq
        · have hl':loud.contains i=false:=by simpa using hl
          rw [if_neg hl] at h hk
          simp only [Bool.and_eq_true,decide_eq_true_eq] at hk
          have hSw:S w:=hS (by simp only [PT.all,hl',Bool.false_and])
          have hrest:(r.all loud.contains)=false→S w:=fun _=>hSw
          by_cases hw:Region.wanted o (yielded ops a.tmps)=true
          · rw [if_pos hw] at h
            obtain ⟨v,h1,h2⟩:=h
            exact jm (v:=v) hs hc hk.1 ho (Region.noSelect_spec hsel) (fun c a w hp=>(hQ _ _ _ hp).elim) fuel listed a w hcl (Region.free_spec ho hk.2) hr' (.inl ⟨hw,h1⟩) hSw
              (ih r _ _ w hB' (hcl.set hr') hrest h2)
          · rw [if_neg hw] at h
            exact jm (v:=undef) hs hc hk.1 ho (Region.noSelect_spec hsel) (fun c a w hp=>(hQ _ _ _ hp).elim) fuel listed a w hcl (Region.free_spec ho hk.2) hr' (.inr ⟨by simpa using hw,rfl⟩) hSw
              (ih r _ _ w hB' (hcl.set hr') hrest h)
    | fork i j ri rj =>
      simp only [jG,Bool.and_eq_true,decide_eq_true_eq,beq_iff_eq] at hB
      obtain ⟨⟨⟨⟨⟨⟨_,_⟩,_⟩,_⟩,hr⟩,hBi⟩,hBj⟩:=hB
      have hi:i∈Region.ready md ops listed:=by rw [hr]; simp
      have hj:j∈Region.ready md ops listed:=by rw [hr]; simp
      refine ⟨fun h0=>(by rw [h0] at hi; cases hi),fun k hk=>?_⟩
      rw [hr] at hk
      simp only [List.mem_cons,List.not_mem_nil,or_false] at hk
      rcases hk with rfl | rfl
      · exact wpOp_mono (fun a' w' h'=>⟨fun _=>h'.1,ih ri _ a' w' hBi (hcl.set hi) (fun _=>h'.1) h'.2⟩) h.1
      · exact wpOp_mono (fun a' w' h'=>⟨fun _=>h'.1,ih rj _ a' w' hBj (hcl.set hj) (fun _=>h'.1) h'.2⟩) h.2
theorem qB {id:Nat} {a:Act} {w:World} {l:List Oper} (n:Nat) (loud:List Nat) (t:PT) (S:World→Prop) (hm:P.follows .mixedOrders=true) (hB:Aa .any l.toArray n loud t=true)
    (hS:S w.drew) (h:jD P l.toArray (Ends Q) S n loud t a w.drew):(Code.region id l.toArray true).wp P Q a w:=by
  simp only [Aa,Bool.and_eq_true] at hB
  obtain ⟨⟨⟨h1,h2⟩,h3⟩,h5⟩:=hB
  have h6:=D9 (P:=P) (Q:=Ends Q) h1 h2 h3 (fun _ _ _ hp=>hp) _ t _ a w.drew h5 (pY _) (fun _=>hS) h
  exact Code.wp_mono (fun e a w q=>by cases e <;> first | exact q | exact q.elim) (wp_region_any hm (mX _ _ _ _ h6))
end
section
variable {P:Program} {Q:Exit→Act→World→Prop} {w w0:World} {n:Nat} {F:List (Nat × Value)} {a:Act}
variable {ops:Array Oper} {S:World→Prop} {hd:Nat} {loud:List Nat} {rest ri rj:PT} {i j:Nat} {o o':Oper} {d:Nat}
theorem Ea (h:Q .normal a w):jD P ops (Ends Q) S n loud .done a w:=h
theorem Lu (ho:ops[i]? = some o) (hl:loud.contains i=true) (hw:Region.wanted o (yielded ops a.tmps)=true)
    (h:∀ K:Act→World→Prop,(∀ a' w',(i<hd→S w')→jD P ops Q S hd loud rest a' w'→K a' w')→o.wp P a w K Q):jD P ops Q S hd loud (.op i rest) a w:=by
  simp only [jD,ho,hl,if_true,wpOp,hw]
  exact .inl (h _ (fun _ _ h1 h2=>⟨h1,h2⟩))
theorem kD (hF:Fr n F a) (ho:ops[i]? = some o) (hl:loud.contains i=false) (hdst:o.dst=some d) (hg:o.guard=none) (hlt:d<n) (v:Value) (y:∀ x,S x→Yd P n F o x v)
    (h:∀ a',Fr n ((d,v)::F) a'→jD P ops Q S hd loud rest a' w):jD P ops Q S hd loud (.op i rest) a w:=by
  have hw:Region.wanted o (yielded ops a.tmps)=true:=by simp [Region.wanted,hg]
  simp only [jD,ho,hl,Bool.false_eq_true,if_false,hw,if_true]
  refine ⟨v,fun x hx=>y x hx a hF,?_⟩
  rw [hdst]
  exact h _ (hF.put hlt)
theorem Jr (hF:Fr n F a) (ho:ops[i]? = some o) (hl:loud.contains i=true) (hdst:o.dst=some d) (hg:o.guard=none) (hlt:d<n) (v:Value) (y:Yd P n F o w v) (hS:i<hd→S w)
    (h:∀ a',Fr n ((d,v)::F) a'→jD P ops Q S hd loud rest a' w):jD P ops Q S hd loud (.op i rest) a w:=by
  refine Lu ho hl (by simp [Region.wanted,hg]) (fun K hK=>?_)
  unfold Oper.wp
  rw [y a hF,Oper.upon_value,hdst]
  exact hK _ _ hS (h _ (hF.put hlt))
theorem GR (ho:ops[i]? = some o) (hl:loud.contains i=true) (hg:o.guard=none)
    (h:∀ K:Act→World→Prop,(∀ a' w',(i<hd→S w')→jD P ops Q S hd loud rest a' w'→K a' w')→o.wp P a w K Q):jD P ops Q S hd loud (.op i rest) a w :=
  Lu ho hl (by simp [Region.wanted,hg]) h
theorem GU (ho:ops[i]? = some o) (ho':ops[j]? = some o') (hg:o.guard=none) (hg':o'.guard=none)
    (h:∀ K:Act→World→Prop,(∀ a' w',S w'→jD P ops Q S hd loud ri a' w'→K a' w')→o.wp P a w K Q)
    (h':∀ K:Act→World→Prop,(∀ a' w',S w'→jD P ops Q S hd loud rj a' w'→K a' w')→o'.wp P a w K Q):jD P ops Q S hd loud (.fork i j ri rj) a w:=by
  have hw:Region.wanted o (yielded ops a.tmps)=true:=by simp [Region.wanted,hg]
  have hw':Region.wanted o' (yielded ops a.tmps)=true:=by simp [Region.wanted,hg']
  simp only [jD,wpOp,ho,ho',hw,hw',if_true]
  exact ⟨.inl (h _ (fun _ _ h1 h2=>⟨h1,h2⟩)),.inl (h' _ (fun _ _ h1 h2=>⟨h1,h2⟩))⟩
end
end Go.Dk
