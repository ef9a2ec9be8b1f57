/- A walk over named slots: of an activation only the slots that matter are known ('Fr'); each operation has a rule with its value written out. Plain lemmas over the model; no program. -/
import Derived.Test.YtepbmdlgdaedpaaGreatDoorRegion
import Derived.Test.YtepbmdlgdaedpaaGreatDoorOwn
/- A walk over named slots: of an activation only the slots that matter are known ('Fr'); each operation has a rule with its value written out. Plain lemmas over the model; no program. -/
namespace Go.Dk
open Go Go.RowKit
def look:List (Nat × Value)→Nat→Option Value
  | [],_=>none
  | (k,v)::r,s=>bif Nat.beq k s then some v else look r s
structure Fr (n:Nat) (F:List (Nat × Value)) (a:Act):Prop where
  size:a.tmps.size=n
  defers:a.defers=[]
  has:∀ s v,look F s=some v→a.tmps[s]? = some v
def ev (F:List (Nat × Value)):Operand→Option Value
  | .tmp s=>look F s
  | .const v=>some v
  | .global g=>some (.pointer (some ⟨g,0,none⟩))
  | .func f=>some (.func (.func f) #[] #[])
section
variable {n:Nat} {F:List (Nat × Value)} {a:Act}
theorem Fr.at (h:Fr n F a) {s:Nat} {v:Value} (hl:look F s=some v):a.tmps.getD s undef=v:=by
  have h1:=h.has s v hl
  simp [Array.getD_eq_getD_getElem?,h1]
theorem Fr.ev (h:Fr n F a) {x:Operand} {v:Value} (hx:ev F x=some v):a.eval x=v:=by
  cases x with
  | tmp s=>exact h.at hx
  | const c=>exact Option.some.inj hx
  | global g=>exact Option.some.inj hx
  | func f=>exact Option.some.inj hx
theorem Fr.put (h:Fr n F a) {d:Nat} {v:Value} (hd:d<n):Fr n ((d,v)::F) (a.put (some d) v):=by
  refine ⟨by simp [Act.put,h.size],h.defers,fun s u hs=>?_⟩
  simp only [look] at hs
  simp only [Act.put]
  cases hb:Nat.beq d s with
  | true =>
    rw [hb] at hs
    have e:d=s:=Nat.eq_of_beq_eq_true hb
    subst e
    simp only [cond_true,Option.some.injEq] at hs
    subst hs
    simp [h.size,hd]
  | false =>
    rw [hb] at hs
    have e:d≠s:=fun e=>by subst e; rw [Nat.beq_refl] at hb; cases hb
    rw [Array.getElem?_setIfInBounds]
    rw [if_neg e]
    exact h.has s u hs
def pick (F:List (Nat × Value)):List Nat→List (Nat × Value)
  | []=>[]
  | s::r=>match look F s with
    | some v=>(s,v)::pick F r
    | none=>pick F r
theorem Ci (F:List (Nat × Value)) (ks:List Nat) (s:Nat) (v:Value) (h:look (pick F ks) s=some v):look F s=some v:=by
  induction ks with
  | nil=>cases h
  | cons k r ih =>
    simp only [pick] at h
    cases hk:look F k with
    | none=>rw [hk] at h; exact ih h
    | some u =>
      rw [hk] at h
      simp only [look] at h
      cases hb:Nat.beq k s with
      | true =>
        rw [hb] at h
        have e:k=s:=Nat.eq_of_beq_eq_true hb
        subst e
        simp only [cond_true,Option.some.injEq] at h
        rw [hk,h]
      | false=>rw [hb] at h; exact ih h
theorem Fr.keep (h:Fr n F a) (ks:List Nat) {F':List (Nat × Value)} (hp:pick F ks=F'):Fr n F' a :=
  ⟨h.size,h.defers,fun s v hs=>h.has s v (Ci F ks s v (by rw [hp]; exact hs))⟩
theorem Fr.cast (h:Fr n F a) {F':List (Nat × Value)} (hp:F=F'):Fr n F' a:=by subst hp; exact h
end
def slots:List Value→Nat→List (Nat × Value)
  | [],_=>[]
  | v::r,i=>(i,v)::slots r (i+1)
theorem zi (l:List Value) (i s:Nat) (v:Value) (h:look (slots l i) s=some v):i≤s∧l[s-i]? = some v:=by
  induction l generalizing i with
  | nil=>cases h
  | cons u r ih =>
    simp only [slots,look] at h
    cases hb:Nat.beq i s with
    | true =>
      rw [hb] at h
      have e:i=s:=Nat.eq_of_beq_eq_true hb
      subst e
      simp only [cond_true,Option.some.injEq] at h
      exact ⟨Nv _,by rw [Nat.sub_self,h]; rfl⟩
    | false =>
      rw [hb] at h
      obtain ⟨h1,h2⟩:=ih (i+1) h
      refine ⟨ ag,?_⟩
      rw [show s-i=(s-(i+1))+1 by omega,List.getElem?_cons_succ]
      exact h2
section
variable {P:Program} {Q:Exit→Act→World→Prop} {w w0:World} {n:Nat} {F:List (Nat × Value)} {a:Act}
theorem aP {f:FuncId} {fn:Func} {c:Code} {args:List Value} {R:Ending→World→Prop} (hf:P.funcs[f]? = some fn) (hb:fn.body=some c) (hn:fn.ntmps=n) (hle:args.length≤n)
    (h:∀ a,Fr n (slots args 0) a→c.wp P (bodyPost P fn R) a w):Calls P f args.toArray w R:=by
  refine calls_of_wp hf hb (h _ ⟨by simp [hn]; omega,rfl,fun s v hs=>?_⟩)
  obtain ⟨_,h2⟩:=zi _ _ _ _ hs
  rw [Nat.sub_zero] at h2
  have hs:s<args.length:=(List.getElem?_eq_some_iff.1 h2).1
  show (args.toArray++Array.replicate _ undef)[s]? = some v
  rw [Array.getElem?_append_left (by simpa using hs)]
  simpa using h2
theorem gz {c:Operand} {x y:Code} (hF:Fr n F a) (hc:ev F c=some (.bool true)) (h:x.wp P Q a w):(Code.cond c x y).wp P Q a w:=wp_cond_true (hF.ev hc) h
theorem dn {c:Operand} {x y:Code} (hF:Fr n F a) (hc:ev F c=some (.bool false)) (h:y.wp P Q a w):(Code.cond c x y).wp P Q a w:=wp_cond_false (hF.ev hc) h
theorem bH {G:Type} {c:Code} (I:G→Act→World→Prop) (m:G→Nat) (g0:G) (h0:I g0 a w)
    (round:∀ g a w,I g a w→c.wp P (Exit.then (fun a' w'=>∃ g',m g'<m g∧I g' a' w') Q) a w):(Code.loop c).wp P Q a w:=by
  intro b k cs
  have key:∀ n g a w,m g=n→I g a w →
      ∃ e a' w',Q e a' w'∧Arrives P (lone (b.at a (.code c:: .inLoop c::k)) cs w) b k cs e a' w':=by
    intro n
    induction n using Nat.strongRecOn with
    | _ n ih =>
      intro g a w hn hI
      obtain ⟨e,a₁,w₁,hq,harr⟩:=round g a w hI b (.inLoop c::k) cs
      cases e with
      | normal =>
        obtain ⟨g',hlt,hI₁⟩:=hq
        obtain ⟨e₂,a₂,w₂,hq₂,harr₂⟩:=ih (m g') (hn ▸ hlt) g' a₁ w₁ rfl hI₁
        exact ⟨e₂,a₂,w₂,hq₂,.of_steps (Steps.trans harr (.one step_inLoop)) harr₂⟩
      | exit id=>exact ⟨_,a₁,w₁,hq,.pass (x:= .inLoop c) rfl (fun _ _=> .inl (by simp)) harr⟩
      | goto l=>exact ⟨_,a₁,w₁,hq,.pass (x:= .inLoop c) rfl (fun _ _=> .inl (by simp)) harr⟩
      | ret=>exact ⟨_,a₁,w₁,hq,.pass (x:= .inLoop c) rfl (fun _ _=> .inl (by simp)) harr⟩
      | panic ch=>exact ⟨_,a₁,w₁,hq,.pass (x:= .inLoop c) rfl (fun _ _=> .inl (by simp)) harr⟩
      | outgrown=>exact ⟨_,a₁,w₁,hq,.pass (x:= .inLoop c) rfl (fun _ _=> .inl (by simp)) harr⟩
  obtain ⟨e,a',w',hq,harr⟩:=key _ g0 a w rfl h0
  exact ⟨e,a',w',hq,.of_steps (.one step_loop) harr⟩
section
variable {fn:Func} {R:Ending→World→Prop}
theorem gJ (hF:Fr n F a) (hr:fn.results = #[]) (h:R (.returned (.tuple #[])) w):bodyPost P fn R .normal a w:=bodyPost_end (results_none hr _ _ _) hF.defers h
theorem aO {t:Tmp} {v:Value} (hF:Fr n F a) (hr:fn.results = #[.tmp t]) (hl:look F t=some v) (h:R (.returned v) w):bodyPost P fn R .ret a w :=
  bodyPost_ret (results_tmp hr _ _ _) hF.defers (by rw [hF.at hl]; exact h)
theorem gG {t u:Tmp} {v x:Value} (hF:Fr n F a) (hr:fn.results = #[.tmp t,.tmp u]) (hl:look F t=some v) (hl2:look F u=some x) (h:R (.returned (.tuple #[v,x])) w):bodyPost P fn R .ret a w :=
  bodyPost_ret (results_tmp2 hr _ _ _) hF.defers (by rw [hF.at hl,hF.at hl2]; exact h)
theorem results_tmp3 {t u s:Tmp} (h:fn.results = #[.tmp t,.tmp u,.tmp s]) (tmps:Array Value) (P:Program) (w:World) :
    (results fn tmps).run P w= .ok (.tuple #[tmps.getD t undef,tmps.getD u undef,tmps.getD s undef]) w:=by
  simp [results,h]
theorem iG {t u s:Tmp} {v x y:Value} (hF:Fr n F a) (hr:fn.results = #[.tmp t,.tmp u,.tmp s]) (hl:look F t=some v) (hl2:look F u=some x) (hl3:look F s=some y) (h:R (.returned (.tuple #[v,x,y])) w):bodyPost P fn R .ret a w :=
  bodyPost_ret (results_tmp3 hr _ _ _) hF.defers (by rw [hF.at hl,hF.at hl2,hF.at hl3]; exact h)
theorem GX {t:Tmp} {ty:TypeId} {L:List Row} {g:Nat} {te:TypeId} {cs:List Value} (hF:Fr n F a) (hr:fn.results = #[.cell t ty]) (hA:At w0 L w) (hl:look F t=some (.pointer (some ⟨g,0,none⟩)))
    (k:Nat) (hk:L[k]? = some (g,te,cs)) (hrow:isRow P ty cs.length=true) (h:R (.returned (.agg cs.toArray)) w):bodyPost P fn R .ret a w :=
  bodyPost_ret (uK hr hA (hF.at hl) k hk hrow) hF.defers h
end
def Yd (P:Program) (n:Nat) (F:List (Nat × Value)) (o:Oper) (w:World) (v:Value):Prop:=∀ a,Fr n F a→(execOp a.eval o).run P w= .ok (.value v) w
section
variable {ops:Array Oper} {rest:List Oper} {o:Oper} {v:Value} {d:Nat}
theorem KX (hF:Fr n F a) (hd:o.dst=some d) (hg:o.guard=none) (hlt:d<n) (v:Value) (y:Yd P n F o w v) (h:∀ a',Fr n ((d,v)::F) a'→wpList P ops Q rest a' w):wpList P ops Q (o::rest) a w :=
  wpList_plain hg (fun K hK=>by
    unfold Oper.wp
    rw [y a hF,Oper.upon_value,hd]
    exact hK _ _ (h _ (hF.put hlt)))
theorem jB (hF:Fr n F a) {j dj:Nat} {b want:Bool} {oj:Oper} (hg:o.guard=some (j,want)) (hj:ops[j]? = some oj) (hdj:oj.dst=some dj) (hl:look F dj=some (.bool b)):Region.wanted o (yielded ops a.tmps)=(b == want):=by
  have h1:=hF.has dj _ hl
  unfold Region.wanted
  simp only [hg,yielded,hj,hdj,Option.bind_some,h1]
  cases b <;> cases want <;> rfl
theorem aJ (hF:Fr n F a) (hd:o.dst=some d) {j dj:Nat} {want:Bool} {oj:Oper} (hg:o.guard=some (j,want)) (hj:ops[j]? = some oj) (hdj:oj.dst=some dj) (hl:look F dj=some (.bool want)) (hlt:d<n) (v:Value) (y:Yd P n F o w v)
    (h:∀ a',Fr n ((d,v)::F) a'→wpList P ops Q rest a' w):wpList P ops Q (o::rest) a w :=
  wpList_step (fun K hK=>by
    rw [if_pos (by rw [jB hF hg hj hdj hl]; simp)]
    unfold Oper.wp
    rw [y a hF,Oper.upon_value,hd]
    exact hK _ _ (h _ (hF.put hlt)))
theorem az (hF:Fr n F a) (hd:o.dst=some d) {j dj:Nat} {want b:Bool} {oj:Oper} (hg:o.guard=some (j,want)) (hj:ops[j]? = some oj) (hdj:oj.dst=some dj) (hl:look F dj=some (.bool b)) (hb:(b == want)=false) (hlt:d<n)
    (h:∀ a',Fr n ((d,undef)::F) a'→wpList P ops Q rest a' w):wpList P ops Q (o::rest) a w :=
  wpList_step (fun K hK=>by
    rw [if_neg (by rw [jB hF hg hj hdj hl,hb]; simp),hd]
    exact hK _ _ (h _ (hF.put hlt)))
theorem ax (hg:o.guard=none) (h:∀ K:Act→World→Prop,(∀ a w,wpList P ops Q rest a w→K a w)→o.wp P a w K Q):wpList P ops Q (o::rest) a w:=wpList_plain hg h
theorem gI (hF:Fr n F a) {j dj:Nat} {want:Bool} {oj:Oper} (hg:o.guard=some (j,want)) (hj:ops[j]? = some oj) (hdj:oj.dst=some dj) (hl:look F dj=some (.bool want))
    (h:∀ K:Act→World→Prop,(∀ a w,wpList P ops Q rest a w→K a w)→o.wp P a w K Q):wpList P ops Q (o::rest) a w :=
  wpList_step (fun K hK=>by
    rw [if_pos (by rw [jB hF hg hj hdj hl]; simp)]
    exact h K hK)
theorem aH (h:Q .normal a w):wpList P ops Q [] a w:=h
theorem GY {K:Act→World→Prop} (hF:Fr n F a) (f:FuncId) {args:Array Operand} {ts:Array TypeId} (ho:o.op= .call { callee:= .value (.func f),args:=args,argTypes:=ts }) {fn:Func} (hfn:P.funcs[f]? = some fn) (hnm:(fn.name == "runtime.NumGoroutine")=false) (hbd:fn.body.isNone=false)
    (vals:List Value) (hv:args.toList.map (ev F)=vals.map some) (h:Calls P f vals.toArray w (fun e w'=>∃ v,e= .returned v∧K (a.put o.dst v) w')):o.wp P a w K Q:=by
  have hargs:args.map a.eval=vals.toArray:=by
    have h1:∀ (xs:List Operand) (vs:List Value),xs.map (Dk.ev F)=vs.map some→xs.map a.eval=vs:=by
      intro xs
      induction xs with
      | nil=>intro vs h; cases vs <;> simp_all
      | cons x xs ih =>
        intro vs h
        cases vs with
        | nil=>simp at h
        | cons u us =>
          simp only [List.map_cons,List.cons.injEq] at h
          simp only [List.map_cons,hF.ev h.1,ih us h.2]
    have h2:=h1 args.toList vals hv
    apply Array.ext'
    rw [Array.toList_map,h2]
  have hrun:(execOp a.eval o).run P w= .ok (.enter f vals.toArray) w:=by
    unfold execOp
    simp only [ho,resolve,hargs,Act.eval,Deferred.ofValue,invoke,callFunc,Sem.run_bind,Sem.run_pure,Result.andThen_ok,run_program,hfn,hnm,hbd,Bool.false_eq_true,if_false]
    simp
  unfold Oper.wp
  rw [hrun,Oper.upon_enter]
  refine h.mono ?_
  rintro e w' ⟨v,rfl,hK⟩
  exact hK
end
def aK (P:Program) (f:FuncId):Prop:=∃ fn,P.funcs[f]? = some fn∧(fn.name == "runtime.NumGoroutine")=false∧fn.body.isNone=false
def evs (F:List (Nat × Value)):List Operand→Option (List Value)
  | []=>some []
  | x::xs=>match ev F x,evs F xs with
    | some v,some vs=>some (v::vs)
    | _,_=>none
theorem x9 (xs:List Operand) (vs:List Value) (h:evs F xs=some vs):xs.map (ev F)=vs.map some:=by
  induction xs generalizing vs with
  | nil=>simp only [evs,Option.some.injEq] at h; subst h; rfl
  | cons x xs ih =>
    simp only [evs] at h
    cases hx:ev F x with
    | none=>simp [hx] at h
    | some v =>
      cases hxs:evs F xs with
      | none=>simp [hx,hxs] at h
      | some us =>
        simp only [hx,hxs,Option.some.injEq] at h
        subst h
        simp [hx,ih us hxs]
theorem ay {o:Oper} {d:Nat} {K:Act→World→Prop} (hF:Fr n F a) (hd:o.dst=some d) (hlt:d<n) {f:FuncId} (hc:aK P f) {args:Array Operand} {ts:Array TypeId} (ho:o.op= .call { callee:= .value (.func f),args:=args,argTypes:=ts })
    {vals:List Value} (hv:evs F args.toList=some vals) (h:Calls P f vals.toArray w (fun e w'=>∃ v,e= .returned v∧∀ a',Fr n ((d,v)::F) a'→K a' w')):o.wp P a w K Q:=by
  obtain ⟨fn,h1,h2,h3⟩:=hc
  refine GY hF f ho h1 h2 h3 vals (x9 _ _ hv) (h.mono ?_)
  rintro e w' ⟨v,he,hK⟩
  refine ⟨v,he,?_⟩
  rw [hd]
  exact hK _ (hF.put hlt)
section
variable {o:Oper} {d:Nat} {K:Act→World→Prop} {L:List Row} {t:TypeId} {x y:Operand}
theorem jA (hF:Fr n F a) (hd:o.dst=none) (ho:o.op= .store t x y) (hA:At w0 L w) {g off:Nat} (hx:ev F x=some (.pointer (some ⟨g,off,none⟩)))
    {v:Value} (hy:ev F y=some v) (k:Nat) {te:TypeId} {cs:List Value} (hk:L[k]? = some (g,te,cs)) (hl:off<cs.length) (hv:v.oneCell'=true) (hs:(P.info? t).map (·.size)=some 1)
    (h:∀ w',At w0 (L.set k (g,te,cs.set off v)) w'→K a w'):o.wp P a w K Q :=
  BK ho hA (hF.ev hx) (hF.ev hy) k hk hl hv hs (fun w' hw=>by rw [hd]; exact h w' hw)
theorem pz (hF:Fr n F a) (hd:o.dst=none) (ho:o.op= .store t x y) (hA:At w0 L w) {g off:Nat} (hx:ev F x=some (.pointer (some ⟨g,off,none⟩)))
    {new:List Value} (hy:ev F y=some (.agg new.toArray)) (k:Nat) {te:TypeId} {cs:List Value} (hk:L[k]? = some (g,te,cs)) (hl:off+new.length≤cs.length) (hv:∀ v∈new,v.oneCell'=true) (hs:(P.info? t).map (·.size)=some new.length)
    (h:∀ w',At w0 (L.set k (g,te,splice cs off new)) w'→K a w'):o.wp P a w K Q :=
  wM ho hA (hF.ev hx) (hF.ev hy) k hk (by simpa using hl) (by simpa using hv) (by simpa using hs) (fun w' hw=>by rw [hd]; exact h w' hw)
theorem wL (hF:Fr n F a) (hd:o.dst=none) (ho:o.op= .store t x y) (hA:At w0 L w) {g:Nat} (hx:ev F x=some (.pointer (some ⟨g,0,none⟩)))
    {new:List Value} (hy:ev F y=some (.agg new.toArray)) (k:Nat) {te:TypeId} {cs:List Value} (hk:L[k]? = some (g,te,cs)) (hl:new.length=cs.length) (hv:∀ v∈new,v.oneCell'=true) (hs:(P.info? t).map (·.size)=some cs.length)
    (h:∀ w',At w0 (L.set k (g,te,new)) w'→K a w'):o.wp P a w K Q :=
  pz hF hd ho hA hx hy k hk ag hv (by rw [hl]; exact hs) (fun w' hw=>h w' (by rw [pK cs new hl.symm] at hw; exact hw))
theorem Dv (hF:Fr n F a) (hd:o.dst=some d) (hlt:d<n) (ho:o.op= .alloc t) (hA:At w0 L w) {cs:List Value} (hz:dB P t (.agg cs.toArray))
    (h:∀ g w' a',w.heap.size≤g→Fr n ((d,.pointer (some ⟨g,0,none⟩))::F) a'→At w0 ((g,t,cs)::L) w'→K a' w'):o.wp P a w K Q :=
  wO ho hA hz (fun g w' hg hw=>by rw [hd]; exact h g w' _ hg (hF.put hlt) hw)
theorem BJ (hF:Fr n F a) (hd:o.dst=some d) (hlt:d<n) (ho:o.op= .alloc t) (hA:At w0 L w) {z:Value} (hz:dB P t z) (hz1:z.cells = #[z])
    (h:∀ g w' a',w.heap.size≤g→Fr n ((d,.pointer (some ⟨g,0,none⟩))::F) a'→At w0 ((g,t,[z])::L) w'→K a' w'):o.wp P a w K Q :=
  wO ho hA hz (fun g w' hg hw=>by rw [hd]; rw [hz1] at hw; exact h g w' _ hg (hF.put hlt) hw)
theorem JF (hF:Fr n F a) (hd:o.dst=some d) (hlt:d<n) (ho:o.op= .box t x) (hA:At w0 L w) {cs:List Value} (hx:ev F x=some (.agg cs.toArray))
    (h:∀ g w' a',w.heap.size≤g→Fr n ((d,.pointer (some ⟨g,0,none⟩))::F) a'→At w0 ((g,t,cs)::L) w'→K a' w'):o.wp P a w K Q :=
  Dx ho hA (hF.ev hx) (fun g w' hg hw=>by rw [hd]; exact h g w' _ hg (hF.put hlt) hw)
theorem GM (hF:Fr n F a) (hd:o.dst=some d) (hlt:d<n) (ho:o.op= .box t x) (hA:At w0 L w) {z:Value} (hx:ev F x=some z) (hz1:z.cells = #[z])
    (h:∀ g w' a',w.heap.size≤g→Fr n ((d,.pointer (some ⟨g,0,none⟩))::F) a'→At w0 ((g,t,[z])::L) w'→K a' w'):o.wp P a w K Q :=
  Dx ho hA (hF.ev hx) (fun g w' hg hw=>by rw [hd]; rw [hz1] at hw; exact h g w' _ hg (hF.put hlt) hw)
end
section
variable {ops:Array Oper} {S:World→Prop} {hd:Nat} {loud rest:List Nat} {i:Nat} {o:Oper} {d:Nat}
theorem JH (hF:Fr n F a) (ho:ops[i]? = some o) (hl:loud.contains i=false) (hdst:o.dst=some d) (hg:o.guard=none) (hlt:d<n) (v:Value) (y:∀ x,S x→Yd P n F o x v)
    (h:∀ a',Fr n ((d,v)::F) a'→bZ P ops Q S hd loud rest a' w):bZ P ops Q S hd loud (i::rest) a w:=by
  refine Eb ho hl (by simp [Region.wanted,hg]) v (fun x hx=>y x hx a hF) ?_
  rw [hdst]
  exact h _ (hF.put hlt)
theorem dD (hF:Fr n F a) (ho:ops[i]? = some o) (hl:loud.contains i=false) (hdst:o.dst=some d) {j dj:Nat} {want:Bool} {oj:Oper} (hg:o.guard=some (j,want)) (hj:ops[j]? = some oj) (hdj:oj.dst=some dj) (hlk:look F dj=some (.bool want)) (hlt:d<n) (v:Value) (y:∀ x,S x→Yd P n F o x v)
    (h:∀ a',Fr n ((d,v)::F) a'→bZ P ops Q S hd loud rest a' w):bZ P ops Q S hd loud (i::rest) a w:=by
  refine Eb ho hl (by rw [jB hF hg hj hdj hlk]; simp) v (fun x hx=>y x hx a hF) ?_
  rw [hdst]
  exact h _ (hF.put hlt)
theorem GV (hF:Fr n F a) (ho:ops[i]? = some o) (hl:loud.contains i=false) (hdst:o.dst=some d) {j dj:Nat} {want b:Bool} {oj:Oper} (hg:o.guard=some (j,want)) (hj:ops[j]? = some oj) (hdj:oj.dst=some dj) (hlk:look F dj=some (.bool b)) (hb:(b == want)=false) (hlt:d<n)
    (h:∀ a',Fr n ((d,undef)::F) a'→bZ P ops Q S hd loud rest a' w):bZ P ops Q S hd loud (i::rest) a w:=by
  refine tY ho (by rw [jB hF hg hj hdj hlk,hb]) ?_ hl
  rw [hdst]
  exact h _ (hF.put hlt)
theorem dG (hF:Fr n F a) (ho:ops[i]? = some o) (hl:loud.contains i=true) (hdst:o.dst=some d) (hg:o.guard=none) (hlt:d<n) (v:Value) (y:Yd P n F o w v) (hS:i<hd→S w)
    (h:∀ a',Fr n ((d,v)::F) a'→bZ P ops Q S hd loud rest a' w):bZ P ops Q S hd loud (i::rest) a w:=by
  refine yV ho hl (by simp [Region.wanted,hg]) (fun K hK=>?_)
  unfold Oper.wp
  rw [y a hF,Oper.upon_value,hdst]
  exact hK _ _ hS (h _ (hF.put hlt))
theorem fG (ho:ops[i]? = some o) (hl:loud.contains i=true) (hg:o.guard=none)
    (h:∀ K:Act→World→Prop,(∀ a' w',(i<hd→S w')→bZ P ops Q S hd loud rest a' w'→K a' w')→o.wp P a w K Q):bZ P ops Q S hd loud (i::rest) a w :=
  yV ho hl (by simp [Region.wanted,hg]) h
theorem kW (hF:Fr n F a) (ho:ops[i]? = some o) (hl:loud.contains i=true) {j dj:Nat} {want:Bool} {oj:Oper} (hg:o.guard=some (j,want)) (hj:ops[j]? = some oj) (hdj:oj.dst=some dj) (hlk:look F dj=some (.bool want))
    (h:∀ K:Act→World→Prop,(∀ a' w',(i<hd→S w')→bZ P ops Q S hd loud rest a' w'→K a' w')→o.wp P a w K Q):bZ P ops Q S hd loud (i::rest) a w :=
  yV ho hl (by rw [jB hF hg hj hdj hlk]; simp) h
end
section
variable {o:Oper} {x y:Operand} {v:Value} {t t':TypeId} {k:IntKind} {p q r:Int}
theorem aV (ho:o.op= .move x) (hx:ev F x=some v):Yd P n F o w v:=fun a hF=>by
  unfold execOp; simp only [ho,hF.ev hx,Sem.run_pure]
theorem fO (ho:o.op= .assign x) (hx:ev F x=some v):Yd P n F o w v:=fun a hF=>by
  unfold execOp; simp only [ho,hF.ev hx,Sem.run_pure]
theorem fD (b:BinOp) (k k':IntKind) (p q:Int) (x y:Operand):(eqGuard b t x y (.int k p) (.int k' q)).run P w= .ok () w:=by
  unfold eqGuard; split <;> rfl
theorem bT (ho:o.op= .binOp .add t x y t') (hx:ev F x=some (.int k p)) (hy:ev F y=some (.int k q)) (hr:k.wrap (p+q)=r):Yd P n F o w (.int k r):=fun a hF=>by
  subst hr; unfold execOp; simp only [ho,hF.ev hx,hF.ev hy,Sem.run_bind,fD,Result.andThen_ok]; simp [binOp,Op.intArith]
theorem eu (ho:o.op= .binOp .sub t x y t') (hx:ev F x=some (.int k p)) (hy:ev F y=some (.int k q)) (hr:k.wrap (p-q)=r):Yd P n F o w (.int k r):=fun a hF=>by
  subst hr; unfold execOp; simp only [ho,hF.ev hx,hF.ev hy,Sem.run_bind,fD,Result.andThen_ok]; simp [binOp,Op.intArith]
theorem wJ (ho:o.op= .binOp .mul t x y t') (hx:ev F x=some (.int k p)) (hy:ev F y=some (.int k q)) (hr:k.wrap (p*q)=r):Yd P n F o w (.int k r):=fun a hF=>by
  subst hr; unfold execOp; simp only [ho,hF.ev hx,hF.ev hy,Sem.run_bind,fD,Result.andThen_ok]; simp [binOp,Op.intArith]
theorem KQ (ho:o.op= .binOp .rem t x y t') (hx:ev F x=some (.int k p)) (hy:ev F y=some (.int k q)) (h0:q≠0) (hr:p.tmod q=r):Yd P n F o w (.int k r):=fun a hF=>by
  subst hr; unfold execOp; simp only [ho,hF.ev hx,hF.ev hy,Sem.run_bind,fD,Result.andThen_ok]; simp [binOp,Op.intDiv,h0]
theorem GI (ho:o.op= .binOp .or t x y t') (hx:ev F x=some (.int k p)) (hy:ev F y=some (.int k q)) (hr:bits .or k p q=r):Yd P n F o w (.int k r):=fun a hF=>by
  subst hr; unfold execOp; simp only [ho,hF.ev hx,hF.ev hy,Sem.run_bind,fD,Result.andThen_ok,binOp_or,intBits_or,Sem.run_pure]
theorem zT {k':IntKind} (ho:o.op= .binOp .shl t x y t') (hx:ev F x=some (.int k p)) (hy:ev F y=some (.int k' q)) (h0:0≤q) (hr:k.wrap (p*2 ^ min q.toNat k.bits)=r):Yd P n F o w (.int k r):=fun a hF=>by
  have h1:¬ q<0:=by omega
  subst hr; unfold execOp; simp only [ho,hF.ev hx,hF.ev hy,Sem.run_bind,fD,Result.andThen_ok]; simp [binOp,Op.shift,h1]
theorem lC {k':IntKind} (ho:o.op= .binOp .shr t x y t') (hx:ev F x=some (.int k p)) (hy:ev F y=some (.int k' q)) (h0:0≤q) (hr:p.fdiv (2 ^ min q.toNat k.bits)=r):Yd P n F o w (.int k r):=fun a hF=>by
  have h1:¬ q<0:=by omega
  subst hr; unfold execOp; simp only [ho,hF.ev hx,hF.ev hy,Sem.run_bind,fD,Result.andThen_ok]; simp [binOp,Op.shift,h1]
def aI (b:BinOp) (p q:Int):Bool:=match b with
  | .eql=>p == q
  | .neq=>p != q
  | .lss=>decide (p<q)
  | .leq=>decide (p≤q)
  | .gtr=>decide (p>q)
  | .geq=>decide (p≥q)
  | _=>false
def Am:BinOp→Bool
  | .eql | .neq | .lss | .leq | .gtr | .geq=>true
  | _=>false
theorem aF {b:BinOp} {c:Bool} (ho:o.op= .binOp b t x y t') (hb:Am b=true) (hx:ev F x=some (.int k p)) (hy:ev F y=some (.int k q)) (hr:aI b p q=c):Yd P n F o w (.bool c):=fun a hF=>by
  subst hr; unfold execOp; simp only [ho,hF.ev hx,hF.ev hy,Sem.run_bind,fD,Result.andThen_ok]
  cases b <;> first | (simp [Am] at hb; done) | simp [binOp,Op.intCmp,aI]
theorem dF (h:p<q):aI .lss p q=true:=decide_eq_true h
theorem dE (h:q≤p):aI .lss p q=false:=decide_eq_false ag
theorem dY (h:q<p):aI .gtr p q=true:=decide_eq_true h
theorem fE (h:p≤q):aI .gtr p q=false:=decide_eq_false ag
theorem Aw (h:q≤p):aI .geq p q=true:=decide_eq_true h
theorem Az (h:p<q):aI .geq p q=false:=decide_eq_false ag
theorem fF (h:p=q):aI .eql p q=true:=beq_iff_eq.2 h
theorem bU (h:p≠q):aI .eql p q=false:=beq_eq_false_iff_ne.2 h
theorem iF (h:p≠q):aI .neq p q=true:=bne_iff_ne.2 h
theorem fK (h:p=q):aI .neq p q=false:=by simp [aI,h]
theorem dm {c:Bool} (ho:o.op= .unOp .not t x) (hx:ev F x=some (.bool c)) {e:Bool} (he:(!c)=e):Yd P n F o w (.bool e):=fun a hF=>by
  subst he; unfold execOp; simp only [ho,hF.ev hx,Sem.run_bind]; simp [Op.unary]
theorem bW {k':IntKind} {s d:TypeId} {ds:TypeDesc} (ho:o.op= .convert s d x) (hs:P.underlying s=some ds) (hd:P.underlying d=some (.int k)) (hx:ev F x=some (.int k' p)) (hr:k.wrap p=r):Yd P n F o w (.int k r):=fun a hF=>by
  subst hr; unfold execOp; simp only [ho,hF.ev hx,Sem.run_bind,convert,run_underlying hs w,run_underlying hd w,Result.andThen_ok]
  cases ds <;> simp [Conv.intToInt]
theorem bP {c:Bool} {x1 x2:Operand} (ho:o.op= .pick x x1 x2) (hx:ev F x=some (.bool c)) (hv:ev F (if c then x1 else x2)=some v):Yd P n F o w v:=fun a hF=>by
  have h1:=hF.ev hv
  unfold execOp; simp only [ho,hF.ev hx,Sem.run_bind]
  cases c <;> simp_all [asBool]
theorem aT {ts e:TypeId} {A:Option Addr} {m c:Nat} (ho:o.op= .call { callee:= .builtin .len,args := #[x],argTypes := #[ts] }) (hu:P.underlying ts=some (.slice e)) (hx:ev F x=some (.slice A m c)) {z:Int} (hz:(m:Int)=z):Yd P n F o w (.int .i64 z):=fun a hF=>by
  subst hz; unfold execOp
  simp only [ho,hF.ev hx,resolve,invoke,builtin,Builtin.len_,List.map_toArray,List.map_cons,List.map_nil,Sem.run_bind,Sem.run_pure,Result.andThen_ok,run_underlying hu w,List.getElem?_toArray,List.getElem?_cons_zero,goInt]
theorem ik {ts:TypeId} {s:ByteArray} (ho:o.op= .call { callee:= .builtin .len,args := #[x],argTypes := #[ts] }) (hu:P.underlying ts=some .string) (hx:ev F x=some (.string s)) {z:Int} (hz:(s.size:Int)=z):Yd P n F o w (.int .i64 z):=fun a hF=>by
  subst hz; unfold execOp
  simp only [ho,hF.ev hx,resolve,invoke,builtin,Builtin.len_,List.map_toArray,List.map_cons,List.map_nil,Sem.run_bind,Sem.run_pure,Result.andThen_ok,run_underlying hu w,List.getElem?_toArray,List.getElem?_cons_zero,goInt]
theorem aY {e:TypeId} {m c size b off:Nat} {kd:IntKind} (ho:o.op= .indexAddr t x y) (hu:P.underlying t=some (.slice e)) (hs:(P.info? e).map (·.size)=some size) (hx:ev F x=some (.slice (some ⟨b,off,none⟩) m c)) (hy:ev F y=some (.int kd p)) (j:Nat) (hp:p=j) (hj:j<m)
    {ad:Addr} (had:(⟨b,off+j*size,none⟩:Addr)=ad):Yd P n F o w (.pointer (some ad)):=fun a hF=>by
  subst hp had
  have h1:(0:Int)≤(j:Int)∧(j:Int)<(m:Int):=by omega
  unfold execOp
  simp only [ho,hF.ev hx,hF.ev hy,Instr.indexAt,asIntOf,Sem.run_bind,Sem.run_pure,Result.andThen_ok,run_underlying hu w,h1,and_self,if_true,run_sizeOf hs,Int.toNat_natCast,Addr.add_mid]
theorem jR {fs:Array Field} {fd:Field} {i b off sz:Nat} (ho:o.op= .fieldAddr t x i) (hu:P.underlying t=some (.struct fs)) (hi:fs[i]? = some fd) (hs:(P.info? fd.type).map (·.size)=some sz) (h0:sz≠0) (hx:ev F x=some (.pointer (some ⟨b,off,none⟩)))
    {ad:Addr} (had:(⟨b,off+fd.offset,none⟩:Addr)=ad):Yd P n F o w (.pointer (some ad)):=fun a hF=>by
  subst had
  unfold execOp
  simp only [ho,hF.ev hx,Instr.fieldAt,Instr.sureAddr,fieldPlace,Sem.run_bind,Sem.run_pure,Result.andThen_ok,run_underlying hu w,hi,run_sizeOf hs,h0,if_false,Addr.add_mid]
theorem aZ {ad:Addr} (ho:o.op= .nilCheck x) (hx:ev F x=some (.pointer (some ad))):Yd P n F o w (.pointer (some ad)):=fun a hF=>by
  unfold execOp; simp only [ho,hF.ev hx,Sem.run_pure]
theorem nC {ad:Addr} (ho:o.op= .load t x) (hx:ev F x=some (.pointer (some ad))) (hv:w.cell? ad=some v) (hn:bi P t=true):Yd P n F o w v:=fun _ hF=>sF ho (hF.ev hx) hv hn
theorem bQ {L:List Row} {g off:Nat} {te:TypeId} {cs:List Value} (ho:o.op= .load t x) (hA:At w0 L w) (hx:ev F x=some (.pointer (some ⟨g,off,none⟩))) (i:Nat) (hk:L[i]? = some (g,te,cs)) (hv:cs[off]? = some v) (hn:bi P t=true):Yd P n F o w v :=
  fun _ hF=>uJ ho hA (hF.ev hx) i hk hv hn
theorem BI {L:List Row} {g off m:Nat} {te:TypeId} {cs new:List Value} (ho:o.op= .load t x) (hA:At w0 L w) (hx:ev F x=some (.pointer (some ⟨g,off,none⟩))) (i:Nat) (hk:L[i]? = some (g,te,cs)) (hr:isRow P t m=true) (hn:off+m≤cs.length) (he:(cs.drop off).take m=new):Yd P n F o w (.agg new.toArray) :=
  fun _ hF=>qL ho hA (hF.ev hx) i hk hr hn he
theorem ad2 (b o j:Nat):(⟨b,o+j*1,none⟩:Addr)=⟨b,o+j,none⟩:=by simp
end
end
section
variable {P:Program} {n:Nat} {F:List (Nat × Value)} {a:Act} {w:World} {Q:Exit→Act→World→Prop} {ops:Array Oper} {l rest:List Oper} {o:Oper} {v:Value} {d:Nat}
theorem vR (hF:Fr n F a) (h:∀ a,Fr n F a→wpList P ops Q l a w):wpList P ops Q l a w:=h a hF
theorem vV (hd:o.dst=some d) (y:Yd P n F o w v) (h:∀ a,Fr n ((d,v)::F) a→wpList P ops Q rest a w) (hg:o.guard=none:=by rfl) (hlt:d<n:=by decide):∀ a,Fr n F a→wpList P ops Q (o::rest) a w:=fun _ hF=>KX hF hd hg hlt v y h
variable {S:World→Prop} {hd i:Nat} {loud:List Nat} {R:Exit→Act→World→Prop} {tl:List Nat}
theorem pR (hF:Fr n F a) (h:∀ a,Fr n F a→bZ P ops Q S hd loud tl a w):bZ P ops Q S hd loud tl a w:=h a hF
theorem pV (ho:ops[i]? = some o) (hdst:o.dst=some d) (y:∀ x,S x→Yd P n F o x v) (h:∀ a,Fr n ((d,v)::F) a→bZ P ops Q S hd loud tl a w) (hl:loud.contains i=false:=by rfl) (hg:o.guard=none:=by rfl) (hlt:d<n:=by decide):∀ a,Fr n F a→bZ P ops Q S hd loud (i::tl) a w:=fun _ hF=>JH hF ho hl hdst hg hlt v y h
theorem pW (ho:ops[i]? = some o) (hdst:o.dst=some d) (y:∀ x,Yd P n F o x v) (h:∀ a,Fr n ((d,v)::F) a→bZ P ops Q S hd loud tl a w) (hl:loud.contains i=false:=by rfl) (hg:o.guard=none:=by rfl) (hlt:d<n:=by decide):∀ a,Fr n F a→bZ P ops Q S hd loud (i::tl) a w:=fun _ hF=>JH hF ho hl hdst hg hlt v (fun x _=>y x) h
theorem wS {id:Nat} {y:Code} (hF:Fr n F a) (h:∀ K:Act→World→Prop,(∀ a w,y.wp P Q a w→K a w)→∀ a,Fr n F a→wpList P l.toArray (Exit.then K Q) l a w):(Code.seq (Code.region id l.toArray false) y).wp P Q a w:=wp_seq_k fun K hK=>wp_region_lit (h K hK a hF)
theorem vE {K:Act→World→Prop} {y:Code} (hK:∀ a w,y.wp P Q a w→K a w) (h:∀ a,Fr n F a→y.wp P Q a w):∀ a,Fr n F a→wpList P ops (Exit.then K Q) [] a w:=fun a hF=>aH (hK _ _ (h a hF))
theorem wT {id:Nat} {y:Code} (h:∀ K:Act→World→Prop,(∀ a w,y.wp P Q a w→K a w)→∀ a,Fr n F a→wpList P l.toArray (Exit.then K Q) l a w):∀ a,Fr n F a→(Code.seq (Code.region id l.toArray false) y).wp P Q a w:=fun _ hF=>wp_seq_k fun K hK=>wp_region_lit (h K hK _ hF)
theorem wQ {x y:Code} (h:∀ K:Act→World→Prop,(∀ a w,y.wp P Q a w→K a w)→∀ a,Fr n F a→x.wp P (Exit.then K Q) a w):∀ a,Fr n F a→(Code.seq x y).wp P Q a w:=fun _ hF=>wp_seq_k fun K hK=>h K hK _ hF
theorem wBk {id:Nat} {c:Code} (h:∀ a,Fr n F a→c.wp P (Exit.inBlock id Q) a w):∀ a,Fr n F a→(Code.block id c).wp P Q a w:=fun a hF=>wp_block (h a hF)
theorem wKp {y:Code} {K:Act→World→Prop} (hK:∀ a w,y.wp P Q a w→K a w) (h:∀ a,Fr n F a→y.wp P Q a w):∀ a,Fr n F a→Code.skip.wp P (Exit.then K Q) a w:=fun a hF=>wp_skip (hK _ _ (h a hF))
theorem vT1 {c:Operand} {x y:Code} (hc:ev F c=some (.bool true)) (h:∀ a,Fr n F a→x.wp P Q a w):∀ a,Fr n F a→(Code.cond c x y).wp P Q a w:=fun a hF=>gz hF hc (h a hF)
theorem vF1 {c:Operand} {x y:Code} (hc:ev F c=some (.bool false)) (h:∀ a,Fr n F a→y.wp P Q a w):∀ a,Fr n F a→(Code.cond c x y).wp P Q a w:=fun a hF=>dn hF hc (h a hF)
theorem pE {y:Code} {K:Act→World→Prop} (hK:∀ a w,y.wp P Q a w→K a w) (h:∀ a,Fr n F a→y.wp P Q a w):∀ a,Fr n F a→bZ P ops (Ends (Exit.then K Q)) S hd loud [] a w:=fun a hF=>bI (hK _ _ (h a hF))
theorem pG (ho:ops[i]? = some o) (hdst:o.dst=some d) (y:∀ x,Yd P n F o x v) (h:∀ a,Fr n ((d,v)::F) a→bZ P ops Q S hd loud tl a w) {j dj:Nat} {want:Bool} {oj:Oper} (hl:loud.contains i=false:=by rfl) (hg:o.guard=some (j,want):=by rfl) (hj:ops[j]? = some oj:=by rfl) (hdj:oj.dst=some dj:=by rfl) (hlk:look F dj=some (.bool want):=by rfl) (hlt:d<n:=by decide):∀ a,Fr n F a→bZ P ops Q S hd loud (i::tl) a w:=fun _ hF=>dD hF ho hl hdst hg hj hdj hlk hlt v (fun x _=>y x) h
theorem pS (ho:ops[i]? = some o) (hdst:o.dst=some d) (h:∀ a,Fr n ((d,undef)::F) a→bZ P ops Q S hd loud tl a w) {j dj:Nat} {want b:Bool} {oj:Oper} (hl:loud.contains i=false:=by rfl) (hg:o.guard=some (j,want):=by rfl) (hj:ops[j]? = some oj:=by rfl) (hdj:oj.dst=some dj:=by rfl) (hlk:look F dj=some (.bool b):=by rfl) (hb:(b == want)=false:=by rfl) (hlt:d<n:=by decide):∀ a,Fr n F a→bZ P ops Q S hd loud (i::tl) a w:=fun _ hF=>GV hF ho hl hdst hg hj hdj hlk hb hlt h
theorem vG (hd:o.dst=some d) (y:Yd P n F o w v) (h:∀ a,Fr n ((d,v)::F) a→wpList P ops Q rest a w) {j dj:Nat} {want:Bool} {oj:Oper} (hg:o.guard=some (j,want):=by rfl) (hj:ops[j]? = some oj:=by rfl) (hdj:oj.dst=some dj:=by rfl) (hl:look F dj=some (.bool want):=by rfl) (hlt:d<n:=by decide):∀ a,Fr n F a→wpList P ops Q (o::rest) a w:=fun _ hF=>aJ hF hd hg hj hdj hl hlt v y h
theorem vS (hd:o.dst=some d) (h:∀ a,Fr n ((d,undef)::F) a→wpList P ops Q rest a w) {j dj:Nat} {want b:Bool} {oj:Oper} (hg:o.guard=some (j,want):=by rfl) (hj:ops[j]? = some oj:=by rfl) (hdj:oj.dst=some dj:=by rfl) (hl:look F dj=some (.bool b):=by rfl) (hb:(b == want)=false:=by rfl) (hlt:d<n:=by decide):∀ a,Fr n F a→wpList P ops Q (o::rest) a w:=fun _ hF=>az hF hd hg hj hdj hl hb hlt h
def sy (F:List (Nat × Value)) (o:Oper):Option (Nat × Value) :=
  match o.dst,o.op with
  | some d,.move x=>(ev F x).map fun v=>(d,v)
  | some d,.assign x=>(ev F x).map fun v=>(d,v)
  | some d,.nilCheck x=>match ev F x with
    | some (.pointer (some ad))=>some (d,.pointer (some ad))
    | _=>none
  | _,_=>none
theorem zW (h:sy F o=some (d,v)):o.dst=some d∧∀ w,Yd P n F o w v:=by
  unfold sy at h
  split at h
  · rename_i hd ho
    obtain ⟨u,hu,e⟩:=Option.map_eq_some_iff.1 h
    cases e; exact ⟨hd,fun w=>aV ho hu⟩
  · rename_i hd ho
    obtain ⟨u,hu,e⟩:=Option.map_eq_some_iff.1 h
    cases e; exact ⟨hd,fun w=>fO ho hu⟩
  · rename_i hd ho
    split at h
    · rename_i hu; cases h; exact ⟨hd,fun w=>aZ ho hu⟩
    · cases h
  · cases h
theorem vX (hs:sy F o=some (d,v)) (h:∀ a,Fr n ((d,v)::F) a→wpList P ops Q rest a w) (hg:o.guard=none:=by rfl) (hlt:d<n:=by decide):∀ a,Fr n F a→wpList P ops Q (o::rest) a w:=fun _ hF=>KX hF (zW (P:=P) (n:=n) hs).1 hg hlt v ((zW hs).2 w) h
theorem pX (ho:ops[i]? = some o) (hs:sy F o=some (d,v)) (h:∀ a,Fr n ((d,v)::F) a→bZ P ops Q S hd loud tl a w) (hl:loud.contains i=false:=by rfl) (hg:o.guard=none:=by rfl) (hlt:d<n:=by decide):∀ a,Fr n F a→bZ P ops Q S hd loud (i::tl) a w:=fun _ hF=>JH hF ho hl (zW (P:=P) (n:=n) hs).1 hg hlt v (fun x _=>(zW hs).2 x) h
theorem yf {t:TypeId} {x:Operand} {fs:Array Field} {fd:Field} {j b off sz:Nat} (k:Nat) (ho:o.op= .fieldAddr t x j) (hu:P.underlying t=some (.struct fs)) (hi:fs[j]? = some fd) (hs:(P.info? fd.type).map (·.size)=some sz) (hx:ev F x=some (.pointer (some ⟨b,off,none⟩))) (h0:sz≠0:=by decide) (had:off+fd.offset=k:=by rfl):Yd P n F o w (.pointer (some ⟨b,k,none⟩)):=jR ho hu hi hs h0 hx (by rw [had])
end
end Go.Dk
