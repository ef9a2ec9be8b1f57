/- Texts that belong together, one behind the other. -/
import Derived.Test.YtepbmdlgdaedpaaGreatDoorHr
namespace Go.Dk
open Go Go.RowKit
theorem gK {R:List Seg}:R⊆R:=fun _ h=>h
theorem bT {R S:List Seg} {X:Seg} (h:R⊆S):R⊆X::S:=fun _ hx=>H5 _ (h hx)
end Go.Dk
namespace Go.Dk
open Go Go.RowKit
def cel {α:Type} (C:α→List Value) (l:List α):List Value:=(l.map C).flatten
def cS (s:List UInt8):List Value:=[ak s]
theorem flat_one {α:Type} (f:α→Value) (xs:List α):(xs.map fun x=>[f x]).flatten=xs.map f:=by
  induction xs with
  | nil=>rfl
  | cons x xs ih=>rw [List.map_cons,List.flatten_cons,ih]; rfl
theorem xg (ss:List (List UInt8)):ss.map ak=cel cS ss:=(flat_one ak ss).symm
theorem kw (ds:List (List UInt8)):dO ds=cel dc ds:=rfl
section
variable {α:Type} {C:α→List Value} {l m:List α} {sz i:Nat} {x:α}
theorem Eu:cel C []=[]:=rfl
theorem uq:cel C (x::l)=C x++cel C l:=by unfold cel; rw [List.map_cons,List.flatten_cons]
theorem jv:cel C (l++m)=cel C l++cel C m:=by unfold cel; rw [List.map_append,List.flatten_append]
end
section
variable {P:Program} {Q:Exit→Act→World→Prop} {w w0 w':World} {n:Nat} {F:List (Nat × Value)} {a:Act} {o:Oper} {d:Nat} {R S:List Seg} {X:Seg} {e:TypeId} {size m:Nat} {v:Value} {W:List Value} {K:Act→World→Prop} {x y z:Operand} {t tx ty te:TypeId}
theorem yQ {f:FuncId} (hF:Fr n F a) (hd:o.dst=some d) (hlt:d<n) (hc:aO P f) {args:Array Operand} {ts:Array TypeId} (ho:o.op= .call { callee:= .value x,args:=args,argTypes:=ts }) (hx:ev F x=some (.func (.func f) #[] #[]))
    {vals:List Value} (hv:evs F args.toList=some vals) (h:Calls P f vals.toArray w (fun e w'=>∃ v,e= .returned v∧∀ a',Fr n ((d,v)::F) a'→K a' w')):o.wp P a w K Q:=by
  obtain ⟨fn,hfn,hnm,hbd⟩:=hc
  have hargs:args.map a.eval=vals.toArray:=by
    have h1:∀ (xs:List Operand) (vs:List Value),xs.map (Dk.ev F)=vs.map some→xs.map a.eval=vs:=by
      intro xs
      induction xs with
      | nil=>intro vs h; cases vs <;> simp_all
      | cons x xs ih =>
        intro vs h
        cases vs with
        | nil=>simp at h
        | cons u us =>
          simp only [List.map_cons,List.cons.injEq] at h
          simp only [List.map_cons,hF.ev h.1,ih us h.2]
    have h2:=h1 args.toList vals (tJ _ _ hv)
    apply Array.ext'
    rw [Array.toList_map,h2]
  have hrun:(execOp a.eval o).run P w= .ok (.enter f vals.toArray) w:=by
    unfold execOp
    simp only [ho,resolve,hargs,hF.ev hx,Deferred.ofValue,invoke,callFunc,Sem.run_bind,Sem.run_pure,Result.andThen_ok,run_program,hfn,hnm,hbd,Bool.false_eq_true,if_false]
    simp
  unfold Oper.wp
  rw [hrun,Oper.upon_enter]
  refine h.mono ?_
  rintro e w' ⟨v,rfl,hK⟩
  rw [hd]
  exact hK _ (hF.put hlt)
end
structure KeptX (α:Type) where
  v:Value
  l:List α
  X:Seg
  cv:Value
  Z:Seg
section
variable {α:Type}
def EE (ks:List (KeptX α)):Seg:=ks.flatMap fun k=>k.X++k.Z
def KOK (C:α→List Value) (e:TypeId) (sz:Nat) (k:KeptX α):Prop :=
  (∀ x∈k.l,(C x).length=sz)∧k.l.length≤9223372036854775807∧Buf e sz k.X k.v k.l.length (cel C k.l)∧Buf e sz k.Z k.cv k.l.length (cel C k.l)
def BookS (C:α→List Value) (BT se e:TypeId) (sz bb:Nat) (ks:List (KeptX α)) (Y:Seg):Prop :=
  ks.length≤4000∧∃ lv wv held XL XW,Buf se 1 XL lv ks.length (ks.map (·.v))∧Buf se 1 XW wv ks.length (ks.map (·.cv))∧(∀ k∈ks,KOK C e sz k)∧Y=row bb BT [lv,wv,.int .i64 held,.bool false]::(XL++(XW++EE ks))
theorem BookS.new (C:α→List Value) (BT se e:TypeId) (sz bb:Nat):BookS C BT se e sz bb [] [row bb BT [.slice none 0 0,.slice none 0 0,.int .i64 0,.bool false]] :=
  ⟨Hy _,_,_,0,[],[],Buf.nil _ _,Buf.nil _ _,(fun _ h=>by cases h),rfl⟩
theorem Buf.tail {e:TypeId} {X:Seg} {v u:Value} {m:Nat} {W:List Value} (h:Buf e 1 X v (m+1) (u::W)):∃ g c o,v= .slice (some ⟨g,o,none⟩) (m+1) (c+1)∧Buf e 1 X (.slice (some ⟨g,o+1,none⟩) m c) m W:=by
  rcases h.2 with ⟨_,h2,_⟩ | ⟨g,c,B,Z,h1,h2,h4,h5⟩
  · omega
  · obtain ⟨c',rfl⟩:∃ c',c=c'+1:=⟨c-1,ag⟩
    refine ⟨g,c',B.length,h1,?_,.inr ⟨g,c',B++[u],Z,by simp,ag,ag,by rw [h5]; simp⟩⟩
    have:=h.1
    simp only [List.length_cons] at this
    omega
end
section
variable {P:Program} {Q:Exit→Act→World→Prop} {w:World} {n:Nat} {F:List (Nat × Value)} {a:Act} {ops:Array Oper} {rest:List Oper} {o:Oper} {d:Nat}
theorem aW (hF:Fr n F a) (hd:o.dst=some d) {j dj:Nat} {want:Bool} {oj:Oper} (hg:o.guard=some (j,want)) (hj:ops[j]? = some oj) (hdj:oj.dst=some dj) (hl:Go.Dk.look F dj=some undef) (hlt:d<n)
    (h:∀ a',Fr n ((d,undef)::F) a'→wpList P ops Q rest a' w):wpList P ops Q (o::rest) a w :=
  wpList_step (fun K hK=>by
    have h1:=hF.has dj _ hl
    have h2:Region.wanted o (yielded ops a.tmps)=false:=by
      unfold Region.wanted
      simp only [hg,yielded,hj,hdj,Option.bind_some,h1]
      rfl
    rw [if_neg (by rw [h2]; simp),hd]
    exact hK _ _ (h _ (hF.put hlt)))
end
end Go.Dk
namespace Go.Dk
open Go Go.RowKit
section
variable {P:Program} {w:World} {n:Nat} {F:List (Nat × Value)} {o:Oper} {a:Act} {t t' e ti:TypeId} {x y:Operand} {v:Value} {ops:Array Oper} {Q:Exit→Act→World→Prop} {rest:List Oper} {d:Nat}
theorem bytes_at {s:List UInt8} {j:Nat} {b:UInt8} (hb:s[j]? = some b):(⟨s.toArray⟩:ByteArray)[j]? = some b:=by
  obtain ⟨hj,he⟩:=List.getElem?_eq_some_iff.1 hb
  rw [getElem?_pos (⟨s.toArray⟩:ByteArray) j (by show j<s.toArray.size; simpa using hj)]
  show some (s.toArray[j]'_)=some b
  simp [he]
theorem mY {kd:IntKind} {p:Int} {s:List UInt8} (ho:o.op= .index t x y) (hu:P.underlying t=some .string) (hx:ev F x=some (ak s)) (hy:ev F y=some (.int kd p)) (j:Nat) (hp:p=j) {b:UInt8} (hb:s[j]? = some b):Yd P n F o w (.int .u8 (b.toNat:Int)):=fun a hF=>by
  subst hp
  have h1:(0:Int)≤(j:Int):=by omega
  have hb2:=bytes_at hb
  unfold execOp
  simp only [ho,hF.ev hx,hF.ev hy,Instr.index,asIntOf,Sem.run_bind,Sem.run_pure,Result.andThen_ok,run_underlying hu w,h1,if_true,Int.toNat_natCast,hb2]
theorem yO {m:Nat} {kd:IntKind} {p:Int} {cs:List Value} (ho:o.op= .index t x y) (hu:P.underlying t=some (.array m e)) (he:P.underlying e=some .string) (hs:(P.info? e).map (·.size)=some 1) (hx:ev F x=some (.agg cs.toArray)) (hy:ev F y=some (.int kd p)) (j:Nat) (hp:p=j) (hj:j<m) (hv:cs[j]? = some v):Yd P n F o w v:=fun a hF=>by
  subst hp
  have h1:(0:Int)≤(j:Int)∧(j:Int)<(m:Int):=by omega
  have hpart:(part e cs.toArray (j*1)).run P w= .ok v w:=by simp [part,isAgg,run_underlying he,hv]
  unfold execOp
  simp only [ho,hF.ev hx,hF.ev hy,Instr.index,asIntOf,Sem.run_bind,Sem.run_pure,Result.andThen_ok,run_underlying hu w,h1,and_self,if_true,run_sizeOf hs,Int.toNat_natCast,hpart]
theorem tf (b:Bool):b=false∨b=true:=by cases b <;> simp
theorem aj {g want:Bool} (h:g=want):some (Value.bool g)=some (.bool want):=by rw [h]
theorem aG {g want:Bool} (h:g = !want):(g == want)=false:=by subst h; cases want <;> rfl
theorem aZ {g:Bool} {x1 x2:Operand} (h:g=true) (ho:o.op= .pick x x1 x2) (hx:ev F x=some (.bool g)) (hv:ev F x1=some v):Yd P n F o w v:=cO (c:=true) ho (hx.trans (aj h)) hv
theorem aV {g:Bool} {x1 x2:Operand} (h:g=false) (ho:o.op= .pick x x1 x2) (hx:ev F x=some (.bool g)) (hv:ev F x2=some v):Yd P n F o w v:=cO (c:=false) ho (hx.trans (aj h)) hv
theorem bF {l l2:List Oper} (_hF:Fr n F a) (F':List (Nat × Value)) (h1:(∀ a,Fr n F' a→wpList P ops Q l2 a w)→wpList P ops Q l a w) (h2:∀ a,Fr n F' a→wpList P ops Q l2 a w):wpList P ops Q l a w:=h1 h2
theorem Fr.bool {g h:Bool} {d:Nat} (hF:Fr n ((d,.bool g)::F) a) (e:g=h):Fr n ((d,.bool h)::F) a:=e ▸ hF
end
end Go.Dk
