/- Texts that belong together, one behind the other. -/
import Derived.Test.YtpomngkcfbnjoaaGreatDoorRn
import Derived.Test.YtpomngkcfbnjoaaGreatDoorRt
import Derived.RangeFuncNested
import Derived.RangeFuncLeaves
import Derived.OrdersIn
import Derived.TacticsIn
import Derived.Test.YtpomngkcfbnjoaaGreatDoorSp1
namespace Go.Dk
open Go Go.RowKit
def wd (D:List Deferred) (a:Act):Act:={ a with defers:=a.defers++D }
abbrev fc (ro:Option Nat):Fence:={ Fence.wide with round:=ro }
def rW (l:List Oper):Bool:=l.all fun o=>match o.op with | .defer _=>false | _=>true
theorem xC {l:List Oper} {o:Oper} (h:rW l=true) (ho:o∈l):∀ c,o.op≠ .defer c:=fun c e=>by
  have h1:=List.all_eq_true.1 h o ho
  rw [e] at h1
  cases h1
section
variable {P:Program} {ro:Option Nat} {m n:Nat} {D:List Deferred} {w w0:World} {a:Act} {F:List (Nat × Value)} {S R:List Seg}
theorem callsIn_fc {f:FuncId} {args:Array Value} {R:Ending→World→Prop}:CallsIn (fc ro) m P f args w R↔Calls P f args w R:=callsIn_wide (n:=m)
theorem Io {row:String} {args:Array Value} {R:Value→World→Prop} (h:Rows P row args w R):RowsIn (fc ro) m P row args w R:=fun c cs _=>by
  obtain ⟨v,w',r,s⟩:=h c cs
  exact ⟨v,w',r,stepsIn_wide.2 s⟩
theorem QD {o:Oper} (hnd:∀ c,o.op≠ .defer c) {K K':Act→World→Prop} {Q Q':Exit→Act→World→Prop} (hK:∀ a w,K a w→K' (wd D a) w) (hQ:∀ c a w,Q (.panic c) a w→Q' (.panic c) (wd D a) w) (hO:LetsOut Q→LetsOut Q')
    (h:o.wp P a w K Q):o.wpIn (fc ro) m P (wd D a) w K' Q':=by
  refine ⟨fun _ _=>trivial,?_⟩
  rw [Oper.semAt_eq _ _ _ hnd]
  unfold Oper.wp at h
  have he:(wd D a).eval=a.eval:=rfl
  have hp:∀ v,(wd D a).put o.dst v=wd D (a.put o.dst v):=fun v=>by cases o.dst <;> rfl
  rw [he]
  generalize (execOp a.eval o).run P w=r at h ⊢
  cases r with
  | ok x w' =>
    cases x with
    | value v=>rw [Oper.upon_value] at h; rw [Oper.uponIn_value,hp]; exact hK _ _ h
    | skip=>rw [Oper.upon_skip] at h; rw [Oper.uponIn_skip,hp]; exact hK _ _ h
    | defer d =>
      rw [Oper.upon_defer] at h
      rw [Oper.uponIn_defer]
      have h2:=hK _ _ h
      have e:wd D (({ a with defers:=d::a.defers }:Act).put o.dst undef)=({ wd D a with defers:=d::(wd D a).defers }:Act).put o.dst undef:=by cases o.dst <;> rfl
      rw [e] at h2
      exact h2
    | enter f args =>
      rw [Oper.upon_enter] at h
      rw [Oper.uponIn_enter]
      refine ⟨(fun hh=>by cases hh),callsIn_fc.2 (Calls.mono h (fun e w'' he=>?_))⟩
      cases e with
      | returned v=>simp only; rw [hp]; exact hK _ _ he
      | panicked c=>exact hQ _ _ _ he
      | outgrown=>exact hO he
    | row r args =>
      rw [Oper.upon_row] at h
      rw [Oper.uponIn_row]
      refine ⟨(fun hh=>by cases hh),Io (Rows.mono h (fun v w'' he=>?_))⟩
      rw [hp]
      exact hK _ _ he
    | _=>exact h.elim
  | halt x w' =>
    cases x with
    | panic v=>rw [Oper.upon_panic] at h; rw [Oper.uponIn_panic]; exact hQ _ _ _ h
    | _=>exact h.elim
theorem Ar {ops:Array Oper} {Q Q':Exit→Act→World→Prop} (hQn:∀ a w,Q .normal a w→Q' .normal (wd D a) w) (hQ:∀ c a w,Q (.panic c) a w→Q' (.panic c) (wd D a) w) (hno:¬ LetsOut Q) :
    ∀ (l:List Oper) (a:Act) (w:World),(∀ o∈l,∀ c,o.op≠ .defer c)→wpList P ops Q l a w→wpListIn (fc ro) m P ops Q' l (wd D a) w
  | [],a,w,_,h=>hQn _ _ h
  | o::l,a,w,hnd,h=>by
    unfold wpList at h
    unfold wpListIn
    have hy:yielded ops (wd D a).tmps=yielded ops a.tmps:=rfl
    rw [hy]
    split
    · rename_i hw
      rw [if_pos hw] at h
      rcases h with h | h
      · exact QD (hnd o (TF ..)) (fun a w h=>Ar hQn hQ hno l a w (fun x hx=>hnd x (TI _ hx)) h) hQ (fun h=>absurd h hno) h
      · exact absurd h.2 hno
    · rename_i hw
      rw [if_neg hw] at h
      refine ⟨fun _ _=>trivial,?_⟩
      have hp:(wd D a).put o.dst undef=wd D (a.put o.dst undef):=by cases o.dst <;> rfl
      rw [hp]
      exact Ar hQn hQ hno l _ _ (fun x hx=>hnd x (TI _ hx)) h
section
variable {Q:Exit→Act→World→Prop}
theorem iL {x y:Code} (h:∀ K:Act→World→Prop,(∀ a w,y.wpIn (fc ro) m P Q a w→K a w)→x.wpIn (fc ro) m P (Exit.then K Q) a w):(Code.seq x y).wpIn (fc ro) m P Q a w:=wpIn_seq_k h
theorem Bj {c:Operand} {x y:Code} (hF:Fr n F a) (hc:ev F c=some (.bool false)) (h:y.wpIn (fc ro) m P Q (wd D a) w):(Code.cond c x y).wpIn (fc ro) m P Q (wd D a) w:=wpIn_cond_false (show (wd D a).eval c=_ from hF.ev hc) h
theorem fB {id:Nat} {l:List Oper} (hno:¬ LetsOut Q) (hnd:rW l=true) (h:wpList P l.toArray (fun e a w=>Q e (wd D a) w) l a w):(Code.region id l.toArray false).wpIn (fc ro) m P Q (wd D a) w :=
  wpIn_region_lit (Ar (Q:=fun e a w=>Q e (wd D a) w) (Q':=Q) (fun _ _ h=>h) (fun _ _ _ h=>h) (fun ⟨_,_,h⟩=>hno ⟨_,_,h⟩) l a w (fun o ho=>xC hnd ho) h)
end
theorem Hp.putObj {g:Nat} {o o':Obj} {T:Seg} (h:Hp w0 (((g,o)::T)::R) w):Hp w0 (((g,o')::T)::R) (w.putObj g o'):=by
  have hlt:=h.lt (r:=(g,o)) (by rw [List.flatten_cons]; exact TD _ (TF ..))
  have hnew:=h.new (g,o) (by rw [List.flatten_cons]; exact TD _ (TF ..))
  have hd:=h.dist
  rw [List.flatten_cons,List.cons_append,List.map_cons,List.nodup_cons] at hd
  refine ⟨h.os,h.tape,h.output,by rw [World.putObj_size]; exact h.size,fun r hr=>?_,?_,fun r hr=>?_,fun k hk=>?_⟩
  · rw [List.flatten_cons,List.cons_append] at hr
    rcases List.mem_cons.1 hr with rfl | hr
    · exact World.putObj_heap_same hlt
    · rw [World.putObj_heap_other (fun e=>hd.1 (List.mem_map.2 ⟨r,hr,e⟩))]
      exact h.items r (by rw [List.flatten_cons,List.cons_append]; exact TI _ hr)
  · rw [List.flatten_cons,List.cons_append,List.map_cons,List.nodup_cons]; exact hd
  · rw [List.flatten_cons,List.cons_append] at hr
    rcases List.mem_cons.1 hr with rfl | hr
    · exact hnew
    · exact h.new r (by rw [List.flatten_cons,List.cons_append]; exact TI _ hr)
  · rw [World.putObj_heap_other (by intro e; have:w0.heap.size≤g:=hnew; omega)]; exact h.frame k hk
theorem Hp.objAt {g:Nat} {o:Obj} {T:Seg} (h:Hp w0 (((g,o)::T)::R) w):w.heap[g]? = some o:=h.items (g,o) (by rw [List.flatten_cons]; exact TD _ (TF ..))
theorem Hp.newObj (h:Hp w0 R w) (o:Obj):Hp w0 ([(w.heap.size,o)]::R) (w.alloc o):=Hl.obj h o
abbrev CZ (d:Nat):Deferred:={ target:= .collected d,args := #[] }
abbrev Iy (fn:FuncId) (a:Act) (ps:Array Tmp) (assign body:Code) (d:Nat) (st:LoopState) (pe:Option Code):Obj:= .loop { state:=st,pending:=pe,fn:=fn,tmps:=a.tmps,params:=ps,assign:=assign,body:=body,defers:=d }
def NW (b:Act) (ps:Array Tmp) (assign body:Code) (rc:LoopState→Option Code→Obj):Prop:=∃ fn d,rc=Iy fn b ps assign body d
def G9 (P:Program) (ro:Option Nat) (m:Nat) (w0:World) (Q:Exit→Act→World→Prop) (a:Act) (l:Nat) (rc:LoopState→Option Code→Obj) (e:Ending) (w3:World):Prop :=
  (∃ v,e= .returned v)∧∃ st pe S',st≠ .busy∧Hp w0 ([(l,rc st pe)]::S') w3∧∀ w4,Hp w0 S' w4→match pe with
    | none=>Q .normal a w4
    | some c=>c.wpIn (fc ro) m P Q a w4
theorem xP {f:FuncId} (hc:aG P f) (args:Array Value) (w:World):(callFunc f args).run P w= .ok (.enter f args) w:=by
  obtain ⟨fn,h1,h2,h3⟩:=hc
  simp only [callFunc,Sem.run_bind,Sem.run_pure,Result.andThen_ok,run_program,h1,h2,h3,Bool.false_eq_true,if_false]
theorem EQ {Q:Exit→Act→World→Prop} {l:Nat} {fn:FuncId} {ps:Array Tmp} {assign body:Code} {d:Nat} {b:Act}:∀ e w3,G9 P ro m w0 Q a l (Iy fn b ps assign body d) e w3→rangePost (fc ro) m P l Q a e w3:=by
  rintro e w3 ⟨⟨v,rfl⟩,st,pe,S',hst,hA,h⟩
  have h1:=run_endLoop (P:=P) hA.objAt hst
  refine ⟨pe,_,h1,?_⟩
  have h2:=h _ (Hp.tail (Hp.putObj (o':= .loop { ({ state:=st,pending:=pe,fn:=fn,tmps:=b.tmps,params:=ps,assign:=assign,body:=body,defers:=d }:Loop) with state:= .exhausted }) hA))
  cases pe <;> exact h2
theorem Jw {Q:Exit→Act→World→Prop} {g:Operand} {ps:Array Tmp} {assign body:Code} {gf:Nat} {lb:Array Value} {D0:List Deferred} (hF:Fr n F a) (hg:ev F g=some (.func (.func gf) #[] lb)) (hc:aG P gf) (hA:Hp w0 S w)
    (h:∀ (d l:Nat) (rc:LoopState→Option Code→Obj) (w1:World),NW a ps assign body rc→Hp w0 ([(l,rc .ready none)]::[(d,.deferred (some []))]::S) w1 →
      Calls P gf (#[.func (.yield l) #[] #[]]++lb) w1 (G9 P none m w0 Q (wd (CZ d::D0) a) l rc)) :
    (Code.rangeFunc g ps assign body).wpIn (fc none) m P Q (wd D0 a) w:=by
  refine wpIn_rangeFunc ?_
  intro fn _
  have hev:(wd D0 a).eval g= .func (.func gf) #[] lb:=hF.ev hg
  have h1:Hp w0 ([(w.heap.size+1,Iy fn a ps assign body w.heap.size .ready none)]::[(w.heap.size,.deferred (some []))]::S) ((w.alloc (.deferred (some []))).alloc (Iy fn a ps assign body w.heap.size .ready none)):=by
    have h2:=(hA.newObj (.deferred (some []))).newObj (Iy fn a ps assign body w.heap.size .ready none)
    rwa [World.size_alloc] at h2
  generalize hW:(w.alloc (.deferred (some []))).alloc (Iy fn a ps assign body w.heap.size .ready none)=W1 at h1
  refine ⟨w.heap.size+1,[CZ w.heap.size],W1,{ target:= .fn (.func gf) lb,args := #[.func (.yield (w.heap.size+1)) #[] #[]] },W1,gf,#[.func (.yield (w.heap.size+1)) #[] #[]]++lb,W1,hW ▸ run_enterLoop_outer _ _ _ _ _,?_,fun _ _=>trivial,?_,(fun hh=>by cases hh),callsIn_fc.2 ?_⟩
  · simp only [resolve,hev]
    simp [go_sem]
  · simp only [invoke]
    exact xP hc _ _
  · have e:({ wd D0 a with defers:=[CZ w.heap.size]++(wd D0 a).defers }:Act)=wd (CZ w.heap.size::D0) a:=by
      unfold wd
      rw [hF.defers]
      rfl
    rw [e]
    exact (h w.heap.size (w.heap.size+1) _ _ ⟨fn,w.heap.size,rfl⟩ h1).mono EQ
def Ydl (P:Program) (l:Nat) (args:Array Value) (w:World) (R:Ending→World→Prop):Prop:=YieldAt (fc none) 0 P l args w R
theorem Ydl.mono {l:Nat} {args:Array Value} {RR RR':Ending→World→Prop} (h:Ydl P l args w RR) (hr:∀ e w,RR e w→RR' e w):Ydl P l args w RR':=by
  obtain ⟨fn,tmps,assign,body,hy,hR⟩:=h
  exact ⟨fn,tmps,assign,body,hy,hR.mono hr⟩
theorem MJ {l p:Nat} {v:Value} {assign body:Code} {b:Act} {rc:LoopState→Option Code→Obj} {RR:Ending→World→Prop} (hr:NW b #[p] assign body rc) (hF:Fr n F b) (hp:p<n) (hA:Hp w0 ([(l,rc .ready none)]::S) w)
    (h:∀ a2,Fr n ((p,v)::F) a2→assign.wpIn (fc (some l)) 0 P (Exit.then (fun a1 w1=>∃ S1,Hp w0 ([(l,rc .ready none)]::S1) w1∧∀ w2,Hp w0 ([(l,rc .busy none)]::S1) w2→body.wpIn (fc (some l)) 0 P (roundPost P l RR) a1 w2) (fun _ _ _=>False)) (wd [] a2) w):Ydl P l #[v] w RR:=by
  obtain ⟨fn,d,rfl⟩:=hr
  refine ⟨fn,_,assign,body,run_yield hA.objAt rfl,roundIn_of_wpIn (F:=fc none) (n:=0) trivial (wpIn_mono (h { tmps:=((#[p]:Array Tmp).zip #[v]).foldl (fun t (p,v)=>t.setIfInBounds p v) b.tmps,defers:=[] } ?_) ?_)⟩
  · have h1:=(show Fr n F ({ tmps:=b.tmps,defers:=[] }:Act) from ⟨hF.size,rfl,hF.has⟩).put (v:=v) hp
    have e:((#[p]:Array Tmp).zip #[v]).foldl (fun t (p,v)=>t.setIfInBounds p v) b.tmps=b.tmps.setIfInBounds p v:=by simp
    rw [e]
    exact h1
  · rintro e a1 w1 hq
    cases e with
    | normal =>
      obtain ⟨S1,h1,h2⟩:=hq
      exact ⟨_,run_beginRound h1.objAt rfl,h2 _ (Hp.putObj h1)⟩
    | _=>exact hq
section
variable {l:Nat} {ps:Array Tmp} {assign body:Code} {b:Act} {rc:LoopState→Option Code→Obj} {RR:Ending→World→Prop}
theorem Il (hr:NW b ps assign body rc) (hA:Hp w0 ([(l,rc .busy none)]::S) w) (h:∀ w',Hp w0 ([(l,rc .ready none)]::S) w'→RR (.returned (.bool true)) w'):roundPost P l RR .normal a w:=by
  obtain ⟨fn,d,rfl⟩:=hr
  exact ⟨_,_,run_endRound none hA.objAt,h _ (Hp.putObj hA)⟩
end
theorem LQ {o:Oper} {d l:Nat} {K:Act→World→Prop} {Q:Exit→Act→World→Prop} {x:Operand} {args:Array Operand} {ts:Array TypeId} (hF:Fr n F a) (hd:o.dst=some d) (hlt:d<n) (ho:o.op= .call { callee:= .value x,args:=args,argTypes:=ts }) (hx:ev F x=some (.func (.yield l) #[] #[]))
    {vals:List Value} (hv:evs F args.toList=some vals) (h:Ydl P l vals.toArray w (fun e w'=>∃ v,e= .returned v∧∀ a',Fr n ((d,v)::F) a'→K a' w')):o.wpIn (fc none) 0 P a w K Q:=by
  have hargs:args.map a.eval=vals.toArray:=by
    have h1:∀ (xs:List Operand) (vs:List Value),xs.map (Dk.ev F)=vs.map some→xs.map a.eval=vs:=by
      intro xs
      induction xs with
      | nil=>intro vs h; cases vs <;> simp_all
      | cons x xs ih =>
        intro vs h
        cases vs with
        | nil=>simp at h
        | cons u us =>
          simp only [List.map_cons,List.cons.injEq] at h
          simp only [List.map_cons,hF.ev h.1,ih us h.2]
    have h2:=h1 args.toList vals (sN _ _ hv)
    apply Array.ext'
    rw [Array.toList_map,h2]
  obtain ⟨fn,tmps,assign,body,hy,hR⟩:=h
  have hrun:(execOp a.eval o).run P w= .ok (.round l fn tmps assign body) w:=by
    unfold execOp
    simp only [ho,resolve,hargs,hF.ev hx,Deferred.ofValue,Sem.run_bind,Sem.run_pure,Result.andThen_ok,invoke]
    simpa using hy
  refine ⟨fun _ _=>trivial,?_⟩
  rw [show (fc none).round=none from rfl,Oper.semAt_none,hrun,Oper.uponIn_round]
  refine ⟨(fun hh=>by cases hh),hR.mono ?_⟩
  rintro e w' ⟨v,rfl,hK⟩
  simp only
  rw [hd]
  exact hK _ (hF.put hlt)
theorem SE {ops:Array Oper} {rest:List Oper} {o:Oper} {Q:Exit→Act→World→Prop} (hg:o.guard=none) (hnd:rW [o]=true) (hno:¬ LetsOut Q) (h:o.wp P a w (fun a w=>wpListIn (fc ro) m P ops Q rest a w) Q):wpListIn (fc ro) m P ops Q (o::rest) a w:=by
  have e:∀ a,wd [] a=a:=fun a=>by unfold wd; rw [List.append_nil]
  have h1:=QD (ro:=ro) (m:=m) (D:=[]) (K':=fun a w=>wpListIn (fc ro) m P ops Q rest a w) (Q':=Q) (xC hnd (List.mem_singleton.2 rfl)) (fun a w h=>by rw [e]; exact h) (fun c a w h=>by rw [e]; exact h) (fun h=>h) h
  rw [e] at h1
  exact wpListIn_plain hg (fun K hK=>Oper.wpIn_mono hK h1)
theorem JD {ops:Array Oper} {rest:List Oper} {o:Oper} {d:Nat} {Q:Exit→Act→World→Prop} (hF:Fr n F a) (hd:o.dst=some d) (hg:o.guard=none) (hnd:rW [o]=true) (hno:¬ LetsOut Q) (hlt:d<n) (v:Value) (y:Yd P n F o w v)
    (h:∀ a',Fr n ((d,v)::F) a'→wpListIn (fc ro) m P ops Q rest a' w):wpListIn (fc ro) m P ops Q (o::rest) a w :=
  SE hg hnd hno (by
    unfold Oper.wp
    rw [y a hF,Oper.upon_value,hd]
    exact h _ (hF.put hlt))
theorem JE (a:Act):wd [] a=a:=by unfold wd; rw [List.append_nil]
theorem JC {ops:Array Oper} {rest:List Oper} {o:Oper} {Q:Exit→Act→World→Prop} {d l:Nat} {x:Operand} {args:Array Operand} {ts:Array TypeId} (hF:Fr n F a) (hg:o.guard=none) (hd:o.dst=some d) (hlt:d<n) (ho:o.op= .call { callee:= .value x,args:=args,argTypes:=ts }) (hx:ev F x=some (.func (.yield l) #[] #[]))
    {vals:List Value} (hv:evs F args.toList=some vals) (h:Ydl P l vals.toArray w (fun e w'=>∃ v,e= .returned v∧∀ a',Fr n ((d,v)::F) a'→wpListIn (fc none) 0 P ops Q rest a' w')):wpListIn (fc none) 0 P ops Q (o::rest) a w :=
  wpListIn_plain hg (fun K hK=>LQ hF hd hlt ho hx hv (by
    obtain ⟨fn,tmps,assign,body,hy,hR⟩:=h
    exact ⟨fn,tmps,assign,body,hy,hR.mono (fun e w' ⟨v,he,h2⟩=>⟨v,he,fun a' hF'=>hK _ _ (h2 a' hF')⟩)⟩))
def WB {α:Type} (w0:World) (JS:List α→List Seg→Prop) (JX:List Seg→Prop) (R:List Seg) (done:List α):Bool→World→Prop
  | true,w'=>∃ S',JS done S'∧Hp w0 (S'++R) w'
  | false,w'=>∃ S',JX S'∧Hp w0 (S'++R) w'
abbrev Qs {α:Type} (w0:World) (JS:List α→List Seg→Prop) (JX:List Seg→Prop) (R:List Seg) (done:List α) (e:Ending) (w':World):Prop:=∃ b,e= .returned (.bool b)∧WB w0 JS JX R done b w'
theorem Hp.under {X:Seg} {S R:List Seg} {w:World} (h:Hp w0 (X::(S++R)) w):Hp w0 (S++(X::R)) w:=by
  refine Hl.perm h ?_
  rw [List.flatten_cons,List.flatten_append,List.flatten_append,List.flatten_cons]
  exact (List.perm_append_comm_assoc _ _ _)
theorem Hp.over {X:Seg} {S R:List Seg} {w:World} (h:Hp w0 (S++(X::R)) w):Hp w0 (X::(S++R)) w:=by
  refine Hl.perm h ?_
  rw [List.flatten_cons,List.flatten_append,List.flatten_append,List.flatten_cons]
  exact (List.perm_append_comm_assoc _ _ _)
theorem WB.drop {α:Type} {JS:List α→List Seg→Prop} {JX:List Seg→Prop} {X:Seg} {R:List Seg} {done:List α} {b:Bool} {w:World} (h:WB w0 JS JX (X::R) done b w):WB w0 JS JX R done b w:=by
  cases b with
  | true=>obtain ⟨S',h1,h2⟩:=h; exact ⟨S',h1,h2.over.tail⟩
  | false=>obtain ⟨S',h1,h2⟩:=h; exact ⟨S',h1,h2.over.tail⟩
theorem JH {f:FuncId} {fn:Func} {c:Code} {args:List Value} {RR:Ending→World→Prop} (hf:P.funcs[f]? = some fn) (hb:fn.body=some c) (hn:fn.ntmps=n) (hle:args.length≤n)
    (h:∀ a,Fr n (slots args 0) a→c.wpIn (fc none) 0 P (bodyPostM (fc none) 0 P fn RR) a w):Calls P f args.toArray w RR:=by
  refine callsIn_fc.1 (callsIn_of_wp_marks (F:=fc none) (n:=0) hf hb trivial (h { tmps:=args.toArray++Array.replicate (fn.ntmps-args.toArray.size) undef,defers:=[] } ⟨by simp [hn]; omega,rfl,fun s v hs=>?_⟩) O)
  obtain ⟨_,h2⟩:=qK _ _ _ _ hs
  rw [Nat.sub_zero] at h2
  have hs:s<args.length:=(List.getElem?_eq_some_iff.1 h2).1
  show (args.toArray++Array.replicate _ undef)[s]? = some v
  rw [Array.getElem?_append_left (by simpa using hs)]
  simpa using h2
theorem yw {id:Nat} {l:List Oper} {Q:Exit→Act→World→Prop} (hno:¬ LetsOut Q) (hnd:rW l=true) (h:wpList P l.toArray Q l a w):(Code.region id l.toArray false).wpIn (fc ro) m P Q a w:=by
  have h1:=fB (ro:=ro) (m:=m) (D:=[]) (id:=id) (Q:=Q) (a:=a) (w:=w) hno hnd (by
    have e:(fun e a w=>Q e (wd [] a) w)=Q:=by funext e a w; rw [JE]
    rw [e]; exact h)
  rw [JE] at h1
  exact h1
theorem JG {f:FuncId} {fn:Func} {c:Code} {args:List Value} {RR:Ending→World→Prop} (hf:P.funcs[f]? = some fn) (hb:fn.body=some c) (hn:fn.ntmps=n) (hle:args.length≤n)
    (h:∀ a,Fr n (slots args 0) a→c.wpIn (fc none) 0 P (bodyPostM (fc none) 0 P fn RR) (wd [] a) w):Calls P f args.toArray w RR:=by
  refine callsIn_fc.1 (callsIn_of_wp_marks (F:=fc none) (n:=0) hf hb trivial (h { tmps:=args.toArray++Array.replicate (fn.ntmps-args.toArray.size) undef,defers:=[] } ⟨by simp [hn]; omega,rfl,fun s v hs=>?_⟩) O)
  obtain ⟨_,h2⟩:=qK _ _ _ _ hs
  rw [Nat.sub_zero] at h2
  have hs:s<args.length:=(List.getElem?_eq_some_iff.1 h2).1
  show (args.toArray++Array.replicate _ undef)[s]? = some v
  rw [Array.getElem?_append_left (by simpa using hs)]
  simpa using h2
section
variable {fn:Func} {RR:Ending→World→Prop}
theorem JF (hF:Fr n F a) (h:LeavesInM (fc none) 0 P fn a.tmps RR D .returning w):bodyPostM (fc none) 0 P fn RR .ret (wd D a) w:=by
  show LeavesInM (fc none) 0 P fn a.tmps RR (a.defers++D) .returning w
  rw [hF.defers]
  exact h
theorem Oh {t:Tmp} {v:Value} (hF:Fr n F a) (hr:fn.results = #[.tmp t]) (hl:look F t=some v) (h:RR (.returned v) w):bodyPostM (fc none) 0 P fn RR .ret a w:=by
  show LeavesInM (fc none) 0 P fn a.tmps RR a.defers .returning w
  rw [hF.defers]
  exact ⟨_,results_tmp hr _ _ _,by rw [hF.at hl]; exact h⟩
theorem Fh {d:Nat} {T:Seg} {tmps:Array Value} (hA:Hp w0 (((d,.deferred (some []))::T)::S) w) (h:∀ w',Hp w0 (((d,.deferred none)::T)::S) w'→LeavesInM (fc none) 0 P fn tmps RR D .returning w'):LeavesInM (fc none) 0 P fn tmps RR (CZ d::D) .returning w :=
  ⟨by simp,.inl ⟨d,_,rfl,run_takeDeferred hA.objAt,h _ (Hp.putObj hA)⟩⟩
theorem Fg {t:Tmp} {v:Value} (hF:Fr n F a) (hr:fn.results = #[.tmp t]) (hl:look F t=some v) (h:RR (.returned v) w):LeavesInM (fc none) 0 P fn a.tmps RR [] .returning w :=
  ⟨_,results_tmp hr _ _ _,by rw [hF.at hl]; exact h⟩
end
end
end Go.Dk
namespace Go.Dk
open Go Go.RowKit
section
variable {P:Program} {w:World} {n:Nat} {F:List (Nat × Value)} {o:Oper} {t t' e te:TypeId} {x y:Operand} {v:Value}
theorem Ey (k:Nat) {f1 f2:Field} {c c':Int} {X X':List UInt8} (hS:P.underlying t=some (.struct (P.fieldsOf t))) (hp:P.stoodInHeld t=false) (hf:(P.fieldsOf t).toList=[f1,f2]) (n1:f1.name ≠ "_") (n2:f2.name ≠ "_") (o1:f1.offset=0) (o2:f2.offset=1)
    (hi:P.underlying f1.type=some (.int .i64)) (hu:P.underlying f2.type=some (.array 32 e)) (he:P.underlying e=some (.int .u8)) (hs:(P.info? e).map (·.size)=some 1) (hs2:(P.info? f2.type).map (·.size)=some 32) (hX:X.length=32) (hX':X'.length=32) :
    (Op.equalIn (k+4) t (.agg (.int .i64 c::dc X).toArray) (.agg (.int .i64 c'::dc X').toArray)).run P w= .ok (decide (c=c'∧X=X')) w:=by
  rw [show k+4=(k+3)+1 from rfl,run_equalIn_agg w (k+3) t _ _ hS hp,hf]
  have p1:∀ (z:Int) (Y:List UInt8),(part f1.type (.int .i64 z::dc Y).toArray f1.offset).run P w= .ok (.int .i64 z) w:=fun z Y=>by
    rw [o1]; simp [part,isAgg,run_underlying hi]
  have p2:∀ (z:Int) (Y:List UInt8),Y.length=32→(part f2.type (.int .i64 z::dc Y).toArray f2.offset).run P w= .ok (.agg (dc Y).toArray) w:=fun z Y hY=>by
    have h1:((Value.int .i64 z::dc Y).toArray.extract 1 (1+32))=(dc Y).toArray:=by
      apply Array.ext'
      rw [Array.toList_extract]
      show ((Value.int .i64 z::dc Y).take (32+1)).drop 1=dc Y
      rw [List.take_succ_cons,List.drop_one,List.tail_cons,TJ (by rw [aj]; omega)]
    rw [o2]
    simp only [part,isAgg,Sem.run_bind,run_underlying hu w,Result.andThen_ok,Sem.run_pure,if_true,run_sizeOf hs2,h1]
  have e2:(Op.equalIn (k+3) f2.type (.agg (dc X).toArray) (.agg (dc X').toArray)).run P w= .ok (X == X') w:=by
    have:=Go.run_equalIn_bytes (P:=P) w (k+1) f2.type e 32 hu he (fun w=>run_sizeOf hs) X X' hX hX'
    rwa [qf,qf] at this
  have e1:(Op.equalIn (k+3) f1.type (.int .i64 c) (.int .i64 c')).run P w= .ok (c == c') w:=run_equalIn_int w (k+2) f1.type .i64 .i64 c c' hi
  have q1:=fun z=>p2 z X hX
  have q2:=fun z=>p2 z X' hX'
  by_cases h1:c=c'
  · subst h1
    by_cases h2:X=X'
    · subst h2; simp [Op.eqFields,n1,n2,p1,q1,e1,e2]
    · simp [Op.eqFields,n1,n2,p1,q1,q2,e1,e2,h2]
  · simp [Op.eqFields,n1,n2,p1,q1,q2,e1,e2,h1]
theorem Ib {f1 f2 g1 g2:Field} {c c':Int} {K K' X X':List UInt8} (hS:P.underlying t=some (.struct (P.fieldsOf t))) (hp:P.stoodInHeld t=false) (hf:(P.fieldsOf t).toList=[f1,f2]) (n1:f1.name ≠ "_") (n2:f2.name ≠ "_") (o1:f1.offset=0) (o2:f2.offset=32)
    (hk:P.underlying f1.type=some (.array 32 e)) (he:P.underlying e=some (.int .u8)) (hs:(P.info? e).map (·.size)=some 1) (hk2:(P.info? f1.type).map (·.size)=some 32) (hz:(P.info? f2.type).map (·.size)=some 33)
    (hS2:P.underlying f2.type=some (.struct (P.fieldsOf f2.type))) (hp2:P.stoodInHeld f2.type=false) (hg:(P.fieldsOf f2.type).toList=[g1,g2]) (m1:g1.name ≠ "_") (m2:g2.name ≠ "_") (u1:g1.offset=0) (u2:g2.offset=1)
    (hi:P.underlying g1.type=some (.int .i64)) (hu:P.underlying g2.type=some (.array 32 e)) (hs2:(P.info? g2.type).map (·.size)=some 32) (hK:K.length=32) (hK':K'.length=32) (hX:X.length=32) (hX':X'.length=32) :
    (Op.equalIn 10000 t (.agg (dc K++(.int .i64 c::dc X)).toArray) (.agg (dc K'++(.int .i64 c'::dc X')).toArray)).run P w= .ok (decide (K=K'∧(c=c'∧X=X'))) w:=by
  rw [show (10000:Nat)=9999+1 from rfl,run_equalIn_agg w 9999 t _ _ hS hp,hf]
  have p1:∀ (z:Int) (L Y:List UInt8),L.length=32→(part f1.type (dc L++(.int .i64 z::dc Y)).toArray f1.offset).run P w= .ok (.agg (dc L).toArray) w:=fun z L Y hL=>by
    have h1:((dc L++(Value.int .i64 z::dc Y)).toArray.extract 0 (0+32))=(dc L).toArray:=by
      apply Array.ext'
      rw [Array.toList_extract]
      show ((dc L++(Value.int .i64 z::dc Y)).take 32).drop 0=dc L
      rw [List.drop_zero,List.take_left' (by rw [aj,hL])]
    rw [o1]
    simp only [part,isAgg,Sem.run_bind,run_underlying hk w,Result.andThen_ok,Sem.run_pure,if_true,run_sizeOf hk2,h1]
  have p2:∀ (z:Int) (L Y:List UInt8),L.length=32→Y.length=32→(part f2.type (dc L++(.int .i64 z::dc Y)).toArray f2.offset).run P w= .ok (.agg (Value.int .i64 z::dc Y).toArray) w:=fun z L Y hL hY=>by
    have h1:((dc L++(Value.int .i64 z::dc Y)).toArray.extract 32 (32+33))=(Value.int .i64 z::dc Y).toArray:=by
      apply Array.ext'
      rw [Array.toList_extract]
      show ((dc L++(Value.int .i64 z::dc Y)).drop 32).take 33=_
      rw [List.drop_left' (by rw [aj,hL]),TJ (by rw [List.length_cons,aj]; omega)]
    rw [o2]
    simp only [part,isAgg,Sem.run_bind,run_underlying hS2 w,Result.andThen_ok,Sem.run_pure,if_true,run_sizeOf hz,h1]
  have e1:(Op.equalIn 9999 f1.type (.agg (dc K).toArray) (.agg (dc K').toArray)).run P w= .ok (K == K') w:=by
    have:=Go.run_equalIn_bytes (P:=P) w 9997 f1.type e 32 hk he (fun w=>run_sizeOf hs) K K' hK hK'
    rwa [qf,qf] at this
  have e2:(Op.equalIn 9999 f2.type (.agg (Value.int .i64 c::dc X).toArray) (.agg (Value.int .i64 c'::dc X').toArray)).run P w= .ok (decide (c=c'∧X=X')) w:=Ey 9995 hS2 hp2 hg m1 m2 u1 u2 hi hu he hs hs2 hX hX'
  have q1:=fun z Y=>p1 z K Y hK
  have q2:=fun z Y=>p1 z K' Y hK'
  have r1:=fun z=>p2 z K X hK hX
  have r2:=fun z=>p2 z K' X' hK' hX'
  by_cases h1:K=K'
  · subst h1
    by_cases h2:c=c'∧X=X'
    · obtain ⟨rfl,rfl⟩:=h2
      simp [Op.eqFields,n1,n2,q1,r1,e1,e2]
    · simp [Op.eqFields,n1,n2,q1,r1,r2,e1,e2,h2]
  · simp [Op.eqFields,n1,n2,q1,q2,r1,r2,e1,e2,h1]
theorem N8 {f1 f2 g1 g2:Field} {c c':Int} {K K' X X':List UInt8} {b:Bool} (ho:o.op= .binOp .neq t x y t') (hm:P.eqGuardType P.depth t=false) (hS:P.underlying t=some (.struct (P.fieldsOf t))) (hp:P.stoodInHeld t=false) (hf:(P.fieldsOf t).toList=[f1,f2]) (n1:f1.name ≠ "_") (n2:f2.name ≠ "_") (o1:f1.offset=0) (o2:f2.offset=32)
    (hk:P.underlying f1.type=some (.array 32 e)) (he:P.underlying e=some (.int .u8)) (hs:(P.info? e).map (·.size)=some 1) (hk2:(P.info? f1.type).map (·.size)=some 32) (hz:(P.info? f2.type).map (·.size)=some 33)
    (hS2:P.underlying f2.type=some (.struct (P.fieldsOf f2.type))) (hp2:P.stoodInHeld f2.type=false) (hg:(P.fieldsOf f2.type).toList=[g1,g2]) (m1:g1.name ≠ "_") (m2:g2.name ≠ "_") (u1:g1.offset=0) (u2:g2.offset=1)
    (hi:P.underlying g1.type=some (.int .i64)) (hu:P.underlying g2.type=some (.array 32 e)) (hs2:(P.info? g2.type).map (·.size)=some 32) (hK:K.length=32) (hK':K'.length=32) (hX:X.length=32) (hX':X'.length=32)
    (hx:ev F x=some (.agg (dc K++(.int .i64 c::dc X)).toArray)) (hy:ev F y=some (.agg (dc K'++(.int .i64 c'::dc X')).toArray)) (hb:(!decide (K=K'∧(c=c'∧X=X')))=b):Yd P n F o w (.bool b):=fun a hF=>by
  subst hb
  unfold execOp
  simp only [ho,hF.ev hx,hF.ev hy,Sem.run_bind,run_eqGuard_agg w .neq t x y _ _ hm,Result.andThen_ok]
  rw [run_neq_struct,Ib hS hp hf n1 n2 o1 o2 hk he hs hk2 hz hS2 hp2 hg m1 m2 u1 u2 hi hu hs2 hK hK' hX hX']
  rfl
end
end Go.Dk
