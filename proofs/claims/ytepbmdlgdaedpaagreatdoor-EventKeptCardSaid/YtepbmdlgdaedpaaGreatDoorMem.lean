/- What memory is known to hold, as one list of rows: 'At w0 L w': w is w0 but for new blocks and the rows listed in L, which lie as listed. Plain lemmas over the model; no program. -/
import Derived.Test.YtepbmdlgdaedpaaGreatDoorRegion
import Derived.WalkKit
import Derived.ProofKit
import Derived.Lib.Hide
import Derived.Deep.MidRow
import Derived.Deep.Draws
import Derived.Deep.WholeRow
import Derived.BigQuiet
/- What memory is known to hold, as one list of rows: 'At w0 L w': w is w0 but for new blocks and the rows listed in L, which lie as listed. Plain lemmas over the model; no program. -/
namespace Go.Dk
open Go Go.RowKit
abbrev Row:=Nat × TypeId × List Value
structure At (w0:World) (L:List Row) (w:World):Prop where
  os:w.os=w0.os
  tape:w.tape=w0.tape
  output:w.output=w0.output
  size:w0.heap.size≤w.heap.size
  rows:∀ r∈L,w.heap[r.1]? = some (.cells r.2.2.toArray r.2.1 (0,0))
  dist:(L.map (·.1)).Nodup
  frame:∀ k,k<w0.heap.size→k ∉ L.map (·.1)→w.heap[k]? = w0.heap[k]?
section
variable {w0 w w':World} {L K L':List Row} {g:Nat} {t:TypeId} {cs:List Value}
theorem xN {r r':Row} {k:Nat} (hk:L[k]? = some r) (he:r'.1=r.1):(L.set k r').map (·.1)=L.map (·.1):=by
  rw [List.map_set]
  apply List.ext_getElem?
  intro i
  rw [List.getElem?_set]
  split
  · rename_i e
    subst e
    obtain ⟨hkl,hv⟩:=List.getElem?_eq_some_iff.1 hk
    simp [hkl,he,hv]
  · rfl
theorem key_inj (hd:(L.map (·.1)).Nodup) {i k:Nat} {r r':Row} (hi:L[i]? = some r) (hk:L[k]? = some r') (he:r.1=r'.1):i=k:=by
  have h1:(L.map (·.1))[i]? = some r.1:=by simp [hi]
  have h2:(L.map (·.1))[k]? = some r.1:=by simp [hk,he]
  have hil:i<(L.map (·.1)).length:=(List.getElem?_eq_some_iff.1 h1).1
  exact (List.getElem?_inj hil hd).1 (h1.trans h2.symm)
theorem At.refl (w:World):At w [] w:=⟨rfl,rfl,rfl,Nv _,(fun _ h=>by cases h),List.nodup_nil,fun _ _ _=>rfl⟩
theorem At.start (hr:∀ r∈L,w.heap[r.1]? = some (.cells r.2.2.toArray r.2.1 (0,0))) (hd:(L.map (·.1)).Nodup):At w L w :=
  ⟨rfl,rfl,rfl,Nv _,hr,hd,fun _ _ _=>rfl⟩
theorem At.start1 (h:w.heap[g]? = some (.cells cs.toArray t (0,0))):At w [(g,t,cs)] w :=
  At.start (by simpa using h) (by simp)
theorem At.row (h:At w0 L w) {k:Nat} (hk:L[k]? = some (g,t,cs)):w.heap[g]? = some (.cells cs.toArray t (0,0)) :=
  h.rows _ (List.mem_of_getElem? hk)
theorem kF (h:w.heap[g]? = some (.cells cs.toArray t (0,0))):g<w.heap.size:=(Array.getElem?_eq_some_iff.1 h).1
theorem At.lt (h:At w0 L w) {k:Nat} (hk:L[k]? = some (g,t,cs)):g<w.heap.size:=kF (h.row hk)
theorem At.mem_lt (h:At w0 L w) {r:Row} (hr:r∈L):r.1<w.heap.size:=(Array.getElem?_eq_some_iff.1 (h.rows r hr)).1
theorem At.key_lt (h:At w0 L w) {k:Nat} (hk:k∈L.map (·.1)):k<w.heap.size:=by
  obtain ⟨r,hr,rfl⟩:=List.mem_map.1 hk
  exact h.mem_lt hr
theorem At.cell (h:At w0 L w) {k:Nat} (hk:L[k]? = some (g,t,cs)) (j:Nat):w.cell? ⟨g,j,none⟩=cs[j]? := by
  rw [cell_of_row w g j _ t (0,0) (h.row hk)]; simp
theorem At.frozen (h:At w0 L w) {k:Nat} (hk:L[k]? = some (g,t,cs)) (j:Nat):w.frozen? ⟨g,j,none⟩=false:=by
  simp [World.frozen?,h.row hk]
theorem At.old (h:At w0 L w) {b:Nat} (hb:b<w0.heap.size) (hn:b ∉ L.map (·.1)) (j:Nat) (s:Option Nat):w.cell? ⟨b,j,s⟩=w0.cell? ⟨b,j,s⟩:=by
  simp [World.cell?,h.frame b hb hn]
theorem At.below (h:At w0 L w) (hL:∀ r∈L,w0.heap.size≤r.1):Below w0.heap.size w0 w :=
  ⟨h.os,h.tape,h.output,h.size,fun k hk=>h.frame k hk (fun hm=>by
    obtain ⟨r,hr,rfl⟩:=List.mem_map.1 hm
    have:=hL r hr
    omega)⟩
theorem At.drew (h:At w0 L w):At w0 L w.drew:=⟨h.os,h.tape,h.output,h.size,h.rows,h.dist,h.frame⟩
theorem At.drewN (h:At w0 L w) (n:Nat):At w0 L (w.drewN n):=⟨h.os,h.tape,h.output,h.size,h.rows,h.dist,h.frame⟩
theorem At.drawn (h:At w0 L w) (n:Nat):At w0 L { w with drawn:=n }:=⟨h.os,h.tape,h.output,h.size,h.rows,h.dist,h.frame⟩
theorem mV (o:Obj) {k:Nat} (h:k<w.heap.size):(w.alloc o).heap[k]? = w.heap[k]? := by
  simp only [World.alloc]
  rw [Array.getElem?_push]
  have:¬ k=w.heap.size:=by omega
  simp [this]
theorem At.alloc0 (h:At w0 L w) (o:Obj):At w0 L (w.alloc o) :=
  ⟨h.os,h.tape,h.output,by simp only [World.alloc,Array.size_push]; have:=h.size; omega,
   fun r hr=>by rw [mV o (h.mem_lt hr)]; exact h.rows r hr,h.dist,
   fun k hk hn=>by rw [mV o (by have:=h.size; omega)]; exact h.frame k hk hn⟩
theorem At.alloc (h:At w0 L w) (cs:Array Value) (t:TypeId):At w0 ((w.heap.size,t,cs.toList)::L) (w.alloc (.cells cs t)):=by
  have h':=h.alloc0 (.cells cs t)
  refine ⟨h'.os,h'.tape,h'.output,h'.size,?_,?_,?_⟩
  · intro r hr
    rcases List.mem_cons.1 hr with rfl | hr
    · show (w.heap.push _)[w.heap.size]? = _
      simp
    · exact h'.rows r hr
  · simp only [List.map_cons,List.nodup_cons]
    exact ⟨fun hm=>by have:=h.key_lt hm; omega,h.dist⟩
  · intro k hk hn
    simp only [List.map_cons,List.mem_cons,not_or] at hn
    exact h'.frame k hk hn.2
theorem At.put (h:At w0 L w) {k:Nat} (hk:L[k]? = some (g,t,cs)) (cs':List Value):At w0 (L.set k (g,t,cs')) (w.setRow g cs'.toArray):=by
  have hkl:k<L.length:=(List.getElem?_eq_some_iff.1 hk).1
  have hkey:=xN hk (r':=(g,t,cs')) rfl
  refine ⟨h.os,h.tape,h.output,by simpa using h.size,?_,by rw [hkey]; exact h.dist,?_⟩
  · intro r hr
    obtain ⟨i,hi⟩:=List.mem_iff_getElem?.1 hr
    rw [List.getElem?_set] at hi
    split at hi
    · rename_i e
      subst e
      injection hi with hi
      subst hi
      exact setRow_heap w g _ _ t (0,0) (h.row hk)
    · rename_i e
      have hne:r.1≠g:=fun he=>e (key_inj h.dist hi hk he).symm
      rw [setRow_other w g r.1 _ hne]
      exact h.rows r (List.mem_of_getElem? hi)
  · intro i hi hn
    rw [hkey] at hn
    have hne:i≠g:=fun e=>hn (by subst e; exact List.mem_map.2 ⟨_,List.mem_of_getElem? hk,rfl⟩)
    rw [setRow_other w g i _ hne]
    exact h.frame i hi hn
theorem At.trans (h:At w0 L w) (hc:At w K w') (L':List Row) (h1:∀ r∈L',r∈K∨(r∈L∧r.1 ∉ K.map (·.1))) (hd:(L'.map (·.1)).Nodup)
    (h2:∀ r∈K,r.1<w0.heap.size→r.1∈L'.map (·.1)) (h3:∀ r∈L,r.1<w0.heap.size→r.1∈L'.map (·.1)):At w0 L' w':=by
  refine ⟨hc.os.trans h.os,hc.tape.trans h.tape,hc.output.trans h.output,Nat.le_trans h.size hc.size,?_,hd,?_⟩
  · intro r hr
    rcases h1 r hr with hk | ⟨hl,hn⟩
    · exact hc.rows r hk
    · rw [hc.frame r.1 (h.mem_lt hl) hn]
      exact h.rows r hl
  · intro k hk hn
    rw [hc.frame k (Nat.lt_of_lt_of_le hk h.size) (fun hm=>by
      obtain ⟨r,hr,rfl⟩:=List.mem_map.1 hm
      exact hn (h2 r hr hk))]
    exact h.frame k hk (fun hm=>by
      obtain ⟨r,hr,rfl⟩:=List.mem_map.1 hm
      exact hn (h3 r hr hk))
theorem At.then0 (h:At w0 L w) (hc:At w [] w'):At w0 L w' :=
  h.trans hc L (fun r hr=> .inr ⟨hr,by simp⟩) h.dist (fun _ hr=>by cases hr) (fun r hr _=>List.mem_map.2 ⟨r,hr,rfl⟩)
theorem At.thenNew (h:At w0 L w) (hc:At w K w') (hn:∀ r∈K,w.heap.size≤r.1):At w0 (K++L) w':=by
  refine h.trans hc (K++L) (fun r hr=>?_) ?_ (fun r hr _=>by simp; exact .inl ⟨_,_,hr⟩) (fun r hr _=>by simp; exact .inr ⟨_,_,hr⟩)
  · rcases List.mem_append.1 hr with hr | hr
    · exact .inl hr
    · refine .inr ⟨hr,fun hm=>?_⟩
      obtain ⟨r',hr',he⟩:=List.mem_map.1 hm
      have h1:=hn r' hr'
      have h2:=h.mem_lt hr
      omega
  · rw [List.map_append,List.nodup_append]
    refine ⟨hc.dist,h.dist,fun a ha b hb=>?_⟩
    obtain ⟨r,hr,rfl⟩:=List.mem_map.1 ha
    obtain ⟨r',hr',rfl⟩:=List.mem_map.1 hb
    have h1:=hn r hr
    have h2:=h.mem_lt hr'
    omega
theorem At.then1 (h:At w0 L w) {k:Nat} (hk:L[k]? = some (g,t,cs)) {t':TypeId} {cs':List Value} (hc:At w [(g,t',cs')] w'):At w0 (L.set k (g,t',cs')) w':=by
  have hkl:k<L.length:=(List.getElem?_eq_some_iff.1 hk).1
  have hkey:=xN hk (r':=(g,t',cs')) rfl
  refine h.trans hc _ (fun r hr=>?_) (by rw [hkey]; exact h.dist) (fun r hr _=>?_) (fun r hr _=>by rw [hkey]; exact List.mem_map.2 ⟨r,hr,rfl⟩)
  · obtain ⟨i,hi⟩:=List.mem_iff_getElem?.1 hr
    rw [List.getElem?_set] at hi
    split at hi
    · rename_i e
      subst e
      injection hi with hi
      subst hi
      exact .inl (by simp)
    · rename_i e
      refine .inr ⟨List.mem_of_getElem? hi,fun hm=>?_⟩
      have he:r.1=g:=by simpa using hm
      exact e (key_inj h.dist hi hk he).symm
  · rw [hkey]
    simp only [List.mem_singleton] at hr
    subst hr
    exact List.mem_map.2 ⟨_,List.mem_of_getElem? hk,rfl⟩
theorem At.drop (h:At w0 L w) (hs:L'.Sublist L) (hn:∀ r∈L,r.1<w0.heap.size→r∈L'):At w0 L' w :=
  ⟨h.os,h.tape,h.output,h.size,fun r hr=>h.rows r (hs.subset hr),(hs.map (·.1)).nodup h.dist,
   fun k hk hn'=>h.frame k hk (fun hm=>by
    obtain ⟨r,hr,rfl⟩:=List.mem_map.1 hm
    exact hn' (List.mem_map.2 ⟨r,hn r hr hk,rfl⟩))⟩
theorem At.clear (h:At w0 L w) (hn:∀ r∈L,w0.heap.size≤r.1):At w0 [] w :=
  h.drop (List.nil_sublist _) (fun r hr hlt=>by have:=hn r hr; omega)
end
section
variable {w0 w:World} {L:List Row} {g:Nat} {t:TypeId} {cs:List Value}
theorem At.add (h:At w0 L w) (hg:w0.heap[g]? = some (.cells cs.toArray t (0,0))) (hn:g ∉ L.map (·.1)):At w0 (L++[(g,t,cs)]) w:=by
  refine ⟨h.os,h.tape,h.output,h.size,?_,?_,?_⟩
  · intro r hr
    rcases List.mem_append.1 hr with hr | hr
    · exact h.rows r hr
    · simp only [List.mem_singleton] at hr
      subst hr
      rw [h.frame g (kF hg) hn]
      exact hg
  · rw [List.map_append,List.nodup_append]
    refine ⟨h.dist,by simp,fun a ha b hb=>?_⟩
    simp only [List.map_cons,List.map_nil,List.mem_singleton] at hb
    subst hb
    rintro rfl
    exact hn ha
  · intro k hk hm
    rw [List.map_append,List.mem_append,not_or] at hm
    exact h.frame k hk hm.1
end
def splice (cs:List Value) (off:Nat) (new:List Value):List Value:=cs.take off++new++cs.drop (off+new.length)
section
variable {cs new:List Value} {off k:Nat}
theorem pK (X Y:List Value) (h:X.length=Y.length):splice X 0 Y=Y:=by
  have:X.drop (0+Y.length)=[]:=by simp [← h]
  unfold splice
  rw [this]
  simp
end
section
variable {P:Program} {ops:Array Oper} {Q:Exit→Act→World→Prop} {a:Act} {w0 w:World} {L:List Row} {rest:List Oper} {o:Oper}
def bi (P:Program) (t:TypeId):Bool:=match P.underlying t with
  | some (.struct _) | some (.array _ _) | none=>false
  | some _=>true
def isRow (P:Program) (t:TypeId) (n:Nat):Bool:=(match P.underlying t with
  | some (.struct _) | some (.array _ _)=>true
  | _=>false) && ((P.info? t).map (·.size) == some n)
def dB (P:Program) (t:TypeId) (v:Value):Prop:=(P.info? t).map (fun i=>i.zero)=some (some v)
theorem kM {t:TypeId} (h:bi P t=true) (w:World):(isAgg t).run P w= .ok false w:=by
  unfold bi at h
  unfold isAgg
  cases hu:P.underlying t with
  | none=>simp [hu] at h
  | some d =>
    rw [Sem.run_bind,run_underlying hu w]
    cases d <;> simp_all
theorem Dx {K:Act→World→Prop} {t:TypeId} {x:Operand} (ho:o.op= .box t x) (hA:At w0 L w) {v:Value} (hx:a.eval x=v)
    (h:∀ n w',w.heap.size≤n→At w0 ((n,t,v.cells.toList)::L) w'→K (a.put o.dst (.pointer (some ⟨n,0,none⟩))) w'):o.wp P a w K Q:=by
  have h1:=h w.heap.size (w.alloc (.cells v.cells t)) (Nv _) (hA.alloc _ _)
  unfold Oper.wp execOp
  simp only [ho,hx,Instr.box,newVar,newRow,newObj,Sem.run_bind,Sem.run_pure]
  exact h1
theorem wO {K:Act→World→Prop} {t:TypeId} (ho:o.op= .alloc t) (hA:At w0 L w) {v:Value} (hz:dB P t v)
    (h:∀ n w',w.heap.size≤n→At w0 ((n,t,v.cells.toList)::L) w'→K (a.put o.dst (.pointer (some ⟨n,0,none⟩))) w'):o.wp P a w K Q:=by
  have h1:=h w.heap.size (w.alloc (.cells v.cells t)) (Nv _) (hA.alloc _ _)
  unfold dB at hz
  unfold Oper.wp execOp
  cases hi:P.info? t with
  | none=>simp [hi] at hz
  | some i =>
    have hz':i.zero=some v:=by simpa [hi] using hz
    simp only [ho,Instr.alloc,zeroValue,typeInfo,hi,hz',newVar,newRow,newObj,Sem.run_bind,Sem.run_pure,run_program,Result.andThen_ok]
    exact h1
theorem uJ {t:TypeId} {x:Operand} (ho:o.op= .load t x) (hA:At w0 L w) {g off:Nat} (hx:a.eval x= .pointer (some ⟨g,off,none⟩))
    (k:Nat) {te:TypeId} {cs:List Value} (hk:L[k]? = some (g,te,cs)) {v:Value} (hv:cs[off]? = some v) (hn:bi P t=true):(execOp a.eval o).run P w= .ok (.value v) w:=by
  have hc:=(hA.cell hk off).trans hv
  unfold execOp
  simp only [ho,hx,Instr.loadAt,Instr.sureAddr,loadVar,Sem.run_bind,Sem.run_pure,Result.andThen_ok,kM hn w,Bool.false_eq_true,if_false,run_load,hc]
theorem sF {t:TypeId} {x:Operand} (ho:o.op= .load t x) {ad:Addr} (hx:a.eval x= .pointer (some ad))
    {v:Value} (hv:w.cell? ad=some v) (hn:bi P t=true):(execOp a.eval o).run P w= .ok (.value v) w:=by
  unfold execOp
  simp only [ho,hx,Instr.loadAt,Instr.sureAddr,loadVar,Sem.run_bind,Sem.run_pure,Result.andThen_ok,kM hn w,Bool.false_eq_true,if_false,run_load,hv]
theorem kT {t:TypeId} {n:Nat} (h:isRow P t n=true):∃ d,P.underlying t=some d∧d.isRow=true∧(P.info? t).map (·.size)=some n:=by
  unfold isRow at h
  rw [Bool.and_eq_true] at h
  obtain ⟨h1,h2⟩:=h
  cases hu:P.underlying t with
  | none=>simp [hu] at h1
  | some d =>
    refine ⟨d,rfl,?_,by simpa using h2⟩
    rw [hu] at h1
    cases d <;> simp_all
theorem At.range (hA:At w0 L w) {k g:Nat} {te:TypeId} {cs:List Value} (hk:L[k]? = some (g,te,cs)) (off n:Nat):w.rangeAt g off ((cs.drop off).take n):=by
  intro j v hj
  rw [hA.cell hk]
  rw [List.getElem?_take] at hj
  split at hj
  · simpa [List.getElem?_drop] using hj
  · cases hj
theorem qL {t:TypeId} {x:Operand} (ho:o.op= .load t x) (hA:At w0 L w) {g off:Nat} (hx:a.eval x= .pointer (some ⟨g,off,none⟩))
    (k:Nat) {te:TypeId} {cs:List Value} (hk:L[k]? = some (g,te,cs)) {n:Nat} (hr:isRow P t n=true) (hn:off+n≤cs.length) {new:List Value} (he:(cs.drop off).take n=new) :
    (execOp a.eval o).run P w= .ok (.value (.agg new.toArray)) w:=by
  subst he
  obtain ⟨d,hu,hd,hi⟩:=kT hr
  unfold execOp
  simp only [ho,hx,Instr.loadAt,Instr.sureAddr,Sem.run_bind,Sem.run_pure,Result.andThen_ok]
  rw [run_loadVar_mid w g off t _ d (hA.range hk off n) hu hd (by rw [hi,List.length_take,List.length_drop]; congr 1; omega)]
  rfl
theorem BK {K:Act→World→Prop} {t:TypeId} {x y:Operand} (ho:o.op= .store t x y) (hA:At w0 L w) {g off:Nat} (hx:a.eval x= .pointer (some ⟨g,off,none⟩))
    {v:Value} (hy:a.eval y=v) (k:Nat) {te:TypeId} {cs:List Value} (hk:L[k]? = some (g,te,cs)) (hl:off<cs.length) (hv:v.oneCell'=true) (hs:(P.info? t).map (·.size)=some 1)
    (h:∀ w',At w0 (L.set k (g,te,cs.set off v)) w'→K (a.put o.dst undef) w'):o.wp P a w K Q:=by
  have hrow:=hA.row hk
  have hc:(w.cell? ⟨g,off,none⟩)=some cs[off]:=(hA.cell hk off).trans (by simp [hl])
  have hf:=hA.frozen hk off
  have hset:=setCell_eq_setRow w g off _ te (0,0) v hrow
  have h1:=h _ (hA.put hk (cs.set off v))
  have hcells:v.cells = #[v]:=by cases v <;> first | rfl | (simp [Value.oneCell'] at hv)
  have hadd:(⟨g,off,none⟩:Addr).add 0=⟨g,off,none⟩:=by simp [Addr.add]
  unfold Oper.wp execOp
  cases hi:P.info? t with
  | none=>simp [hi] at hs
  | some i =>
    have hs':i.size=1:=by simpa [hi] using hs
    simp only [ho,hx,hy,Instr.storeAt,Instr.sureAddr,storeVar,sizeOf,typeInfo,hi,hs',hcells,Sem.run_bind,Sem.run_pure,run_program,Result.andThen_ok,List.size_toArray,List.length_cons,List.length_nil,ne_eq,not_true_eq_false,if_false,storeCells,hadd,run_store P w _ v _ hv,hc,hf,Bool.false_eq_true]
    rw [hset]
    simpa [Oper.upon] using h1
theorem wM {K:Act→World→Prop} {t:TypeId} {x y:Operand} (ho:o.op= .store t x y) (hA:At w0 L w) {g off:Nat} (hx:a.eval x= .pointer (some ⟨g,off,none⟩))
    {new:Array Value} (hy:a.eval y= .agg new) (k:Nat) {te:TypeId} {cs:List Value} (hk:L[k]? = some (g,te,cs)) (hl:off+new.size≤cs.length) (hv:∀ v∈new,v.oneCell'=true) (hs:(P.info? t).map (·.size)=some new.size)
    (h:∀ w',At w0 (L.set k (g,te,splice cs off new.toList)) w'→K (a.put o.dst undef) w'):o.wp P a w K Q:=by
  have hrow:=hA.row hk
  have h1:=h _ (hA.put hk (splice cs off new.toList))
  have hst:=run_storeCells_at P g off te new.toList 0 _ w hrow (by simpa using hl) (fun v hm=>hv v (by simpa using hm))
  unfold Oper.wp execOp
  cases hi:P.info? t with
  | none=>simp [hi] at hs
  | some i =>
    have hs':i.size=new.size:=by simpa [hi] using hs
    simp only [ho,hx,hy,Instr.storeAt,Instr.sureAddr,storeVar,sizeOf,typeInfo,hi,hs',Value.cells,Sem.run_bind,Sem.run_pure,run_program,Result.andThen_ok,ne_eq,not_true_eq_false,if_false,hst]
    simpa [splice,Oper.upon] using h1
theorem uK {fn:Func} {s:Tmp} {t:TypeId} (h:fn.results = #[.cell s t]) {tmps:Array Value} (hA:At w0 L w) {g:Nat} (hx:tmps.getD s undef= .pointer (some ⟨g,0,none⟩))
    (k:Nat) {te:TypeId} {cs:List Value} (hk:L[k]? = some (g,te,cs)) (hr:isRow P t cs.length=true):(results fn tmps).run P w= .ok (.agg cs.toArray) w:=by
  obtain ⟨d,hu,hd,hi⟩:=kT hr
  have h1:=run_loadVar_mid (P:=P) w g 0 t cs d (by simpa using hA.range hk 0 cs.length) hu hd hi
  have hx':tmps[s]?.getD undef= .pointer (some ⟨g,0,none⟩):=by simpa using hx
  simp [results,h,hx',h1,asAddr]
def jy (v:Option Value) (dflt k:Nat):Prop:=(v=none∧k=dflt)∨∃ kd,v=some (.int kd (k:Int))
theorem wE (d:Nat):jy none d d:= .inl ⟨rfl,rfl⟩
theorem wC (kd:IntKind) (d k:Nat):jy (some (.int kd (k:Int))) d k:= .inr ⟨kd,rfl⟩
theorem run_sliceBound (kd:IntKind) (k y:Nat) (code:BoundsCode) (h:k≤y):(Instr.sliceBound (.int kd (k:Int)) y code).run P w= .ok k w:=by
  have h1:(0:Int)≤(k:Int)∧(k:Int)≤(y:Int):=by omega
  simp [Instr.sliceBound,asIntOf,h1]
theorem kX (b:Bool) (len cap:Nat) {lo hi:Option Value} {l h:Nat} (hlo:jy lo 0 l) (hhi:jy hi len h) (h1:l≤h) (h2:h≤cap) :
    (Instr.sliceBounds b len cap lo hi none).run P w= .ok (l,h,cap) w:=by
  rcases hlo with ⟨rfl,rfl⟩ | ⟨kd,rfl⟩ <;> rcases hhi with ⟨rfl,rfl⟩ | ⟨kd',rfl⟩ <;>
    simp [Instr.sliceBounds,run_sliceBound,h1,h2]
def sub (A:Option Addr) (l cap size:Nat):Option Addr:=if cap=l then A else A.map (·.add (l*size))
theorem run_sizeOf {t:TypeId} {n:Nat} (h:(P.info? t).map (·.size)=some n):(sizeOf t).run P w= .ok n w:=by
  cases hi:P.info? t with
  | none=>simp [hi] at h
  | some i =>
    have:i.size=n:=by simpa [hi] using h
    simp [sizeOf,typeInfo,hi,this]
theorem sub_lt {g off l cap:Nat} (h:l<cap):sub (some ⟨g,off,none⟩) l cap 1=some ⟨g,off+l,none⟩:=by
  unfold sub
  rw [if_neg ag]
  simp [Addr.add_mid]
theorem sub_zero {A:Option Addr} {cap size:Nat}:sub A 0 cap size=A:=by
  unfold sub
  split
  · rfl
  · cases A <;> simp [Addr.add]
end
section
variable {P:Program} {w:World}
def dc (D:List UInt8):List Value:=D.map fun b=> .int .u8 b.toNat
theorem xm {e:TypeId} {cs:Array Value} {i:Nat} {v:Value} (hn:bi P e=true) (h:cs[i]? = some v):(part e cs i).run P w= .ok v w:=by
  unfold part
  simp [kM hn w,h]
theorem pO (f:Nat→Option Bool × Unit→Sem (ForInStep (Option Bool × Unit))) (X Y:List UInt8) (n:Nat) (hX:X.length=n) (hY:Y.length=n)
    (hf:∀ i (h:i<n),(f i (none,())).run P w= .ok (if (X[i]'ag)=(Y[i]'ag) then .yield (none,()) else .done (some false,())) w) :
    ∀ m k,k+m=n→(forIn (List.range' k m) (none,()) f).run P w= .ok (if X.drop k=Y.drop k then (none,()) else (some false,())) w
  | 0,k,h=>by
    have h1:X.drop k=[]:=List.drop_of_length_le ag
    have h2:Y.drop k=[]:=List.drop_of_length_le ag
    simp [h1,h2]
  | m+1,k,h=>by
    have hd1:X.drop k=X[k]'ag::X.drop (k+1):=List.drop_eq_getElem_cons ag
    have hd2:Y.drop k=Y[k]'ag::Y.drop (k+1):=List.drop_eq_getElem_cons ag
    have ih:=pO f X Y n hX hY hf m (k+1) ag
    rw [List.range'_succ,List.forIn_cons,Sem.run_bind,hf k ag,Result.andThen_ok,hd1,hd2]
    by_cases e:X[k]'ag=Y[k]'ag
    · rw [if_pos e]
      simp only [ih,List.cons.injEq,e,true_and]
    · rw [if_neg e,if_neg (fun h=>e (List.cons.inj h).1)]
      rfl
theorem run_equalIn_bytes (d:Nat) (t e:TypeId) (n:Nat) (X Y:List UInt8) (hu:P.underlying t=some (.array n e)) (he:P.underlying e=some (.int .u8)) (hs:(P.info? e).map (·.size)=some 1)
    (hX:X.length=n) (hY:Y.length=n):(Op.equalIn (d+2) t (.agg (dc X).toArray) (.agg (dc Y).toArray)).run P w= .ok (decide (X=Y)) w:=by
  have hn:bi P e=true:=by simp [bi,he]
  unfold Op.equalIn
  rw [Sem.run_bind,run_underlying hu w]
  simp only [Result.andThen_ok,Sem.run_bind,run_sizeOf hs]
  simp only [Std.Legacy.Range.forIn_eq_forIn_range',Std.Legacy.Range.size,Nat.sub_zero,Nat.add_one_sub_one,Nat.div_one]
  rw [pO _ X Y n hX hY (fun i h=>?_) n 0 ag]
  · simp only [Result.andThen_ok,List.drop_zero]
    by_cases e:X=Y <;> simp [e]
  · have h1:(dc X).toArray[i*1]? = some (.int .u8 (X[i]'ag).toNat):=by simp [dc,hX,h]
    have h2:(dc Y).toArray[i*1]? = some (.int .u8 (Y[i]'ag).toNat):=by simp [dc,hY,h]
    simp only [Sem.run_bind,xm hn h1,xm hn h2,Result.andThen_ok,run_equalIn_int w d e .u8 .u8 _ _ he]
    by_cases e:X[i]'ag=Y[i]'ag
    · simp [e]
    · have:((X[i]'ag).toNat:Int)≠((Y[i]'ag).toNat:Int):=fun h=>e (UInt8.toNat_inj.1 ag)
      simp [e,this]
theorem sD (t e:TypeId) (n:Nat) (X Y:List UInt8) (hu:P.underlying t=some (.array n e)) (he:P.underlying e=some (.int .u8)) (hs:(P.info? e).map (·.size)=some 1)
    (hX:X.length=n) (hY:Y.length=n):(binOp .neq t (.agg (dc X).toArray) (.agg (dc Y).toArray)).run P w= .ok (.bool (!decide (X=Y))) w:=by
  rw [run_neq_struct,show (10000:Nat)=9998+2 from rfl,run_equalIn_bytes 9998 t e n X Y hu he hs hX hY]
  rfl
theorem oP {o:Oper} {a:Act} {t t':TypeId} {x y:Operand} (ho:o.op= .binOp .neq t x y t') (e:TypeId) (n:Nat) (X Y:List UInt8) (hx:a.eval x= .agg (dc X).toArray) (hy:a.eval y= .agg (dc Y).toArray)
    (hu:P.underlying t=some (.array n e)) (he:P.underlying e=some (.int .u8)) (hs:(P.info? e).map (·.size)=some 1) (hX:X.length=n) (hY:Y.length=n) (hm:P.eqGuardType P.depth t=false) :
    (execOp a.eval o).run P w= .ok (.value (.bool (!decide (X=Y)))) w:=by
  unfold execOp
  simp only [ho,hx,hy,Sem.run_bind,run_eqGuard_agg w .neq t x y _ _ hm,Result.andThen_ok,sD t e n X Y hu he hs hX hY,Sem.run_pure]
end
end Go.Dk
