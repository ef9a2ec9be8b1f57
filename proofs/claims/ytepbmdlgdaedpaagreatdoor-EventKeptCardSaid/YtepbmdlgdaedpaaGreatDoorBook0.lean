/- Texts that belong together, one behind the other. -/
import Derived.Test.YtepbmdlgdaedpaaGreatDoorHr
namespace Go.Dk
open Go Go.RowKit
theorem dR {R:List Seg}:R⊆R:=fun _ h=>h
theorem bM {R S:List Seg} {X:Seg} (h:R⊆S):R⊆X::S:=fun _ hx=>Nw _ (h hx)
end Go.Dk
namespace Go.Dk
open Go Go.RowKit
def cel {α:Type} (C:α→List Value) (l:List α):List Value:=(l.map C).flatten
def cB (b:UInt8):List Value:=[.int .u8 (b.toNat:Int)]
def cS (s:List UInt8):List Value:=[aj s]
theorem flat_one {α:Type} (f:α→Value) (xs:List α):(xs.map fun x=>[f x]).flatten=xs.map f:=by
  induction xs with
  | nil=>rfl
  | cons x xs ih=>rw [List.map_cons,List.flatten_cons,ih]; rfl
theorem lV (l:List UInt8):dc l=cel cB l:=(flat_one (fun b:UInt8=>Value.int .u8 (b.toNat:Int)) l).symm
theorem jw (ss:List (List UInt8)):ss.map aj=cel cS ss:=(flat_one aj ss).symm
theorem Jl (ds:List (List UInt8)):vU ds=cel dc ds:=rfl
section
variable {α:Type} {C:α→List Value} {l m:List α} {sz i:Nat} {x:α}
theorem wz:cel C []=[]:=rfl
theorem rY:cel C (x::l)=C x++cel C l:=by unfold cel; rw [List.map_cons,List.flatten_cons]
theorem nz:cel C (l++m)=cel C l++cel C m:=by unfold cel; rw [List.map_append,List.flatten_append]
theorem Bh (h:∀ x∈l,(C x).length=sz):(cel C l).length=l.length*sz:=by
  have h1:=xY (z:=sz) (Ws:=l.map C) (fun W hW=>by obtain ⟨u,hu,rfl⟩:=List.mem_map.1 hW; exact h u hu)
  rwa [List.length_map] at h1
theorem lW (h:∀ x∈l,(C x).length=sz) (hi:l[i]? = some x):((cel C l).drop (i*sz)).take sz=C x∧i*sz+sz≤(cel C l).length :=
  flat_at (z:=sz) (Ws:=l.map C) (V:=C x) (i:=i) (fun W hW=>by obtain ⟨u,hu,rfl⟩:=List.mem_map.1 hW; exact h u hu) (by rw [List.getElem?_map,hi]; rfl)
theorem Bi {u:Value} (h:∀ x∈l,(C x).length=1) (hi:l[i]? = some x) (hx:C x=[u]):(cel C l)[i]? = some u∧i<(cel C l).length:=by
  obtain ⟨h1,h2⟩:=lW h hi
  rw [Nat.mul_one,hx] at h1
  rw [Nat.mul_one] at h2
  refine ⟨?_,ag⟩
  have h3:((cel C l).drop i)[0]? = some u:=by
    have h4:(((cel C l).drop i).take 1)[0]? = some u:=by rw [h1]; rfl
    rwa [List.getElem?_take,if_pos ae] at h4
  rwa [List.getElem?_drop,Nat.add_zero] at h3
end
section
variable {P:Program} {Q:Exit→Act→World→Prop} {w w0 w':World} {n:Nat} {F:List (Nat × Value)} {a:Act} {o:Oper} {d:Nat} {R S:List Seg} {X:Seg} {e:TypeId} {size m:Nat} {v:Value} {W:List Value} {K:Act→World→Prop} {x y z:Operand} {t tx ty te:TypeId}
theorem iP {f:FuncId} (hF:Fr n F a) (hd:o.dst=some d) (hlt:d<n) (hc:aK P f) {args:Array Operand} {ts:Array TypeId} (ho:o.op= .call { callee:= .value x,args:=args,argTypes:=ts }) (hx:ev F x=some (.func (.func f) #[] #[]))
    {vals:List Value} (hv:evs F args.toList=some vals) (h:Calls P f vals.toArray w (fun e w'=>∃ v,e= .returned v∧∀ a',Fr n ((d,v)::F) a'→K a' w')):o.wp P a w K Q:=by
  obtain ⟨fn,hfn,hnm,hbd⟩:=hc
  have hargs:args.map a.eval=vals.toArray:=by
    have h1:∀ (xs:List Operand) (vs:List Value),xs.map (Dk.ev F)=vs.map some→xs.map a.eval=vs:=by
      intro xs
      induction xs with
      | nil=>intro vs h; cases vs <;> simp_all
      | cons x xs ih =>
        intro vs h
        cases vs with
        | nil=>simp at h
        | cons u us =>
          simp only [List.map_cons,List.cons.injEq] at h
          simp only [List.map_cons,hF.ev h.1,ih us h.2]
    have h2:=h1 args.toList vals (x9 _ _ hv)
    apply Array.ext'
    rw [Array.toList_map,h2]
  have hrun:(execOp a.eval o).run P w= .ok (.enter f vals.toArray) w:=by
    unfold execOp
    simp only [ho,resolve,hargs,hF.ev hx,Deferred.ofValue,invoke,callFunc,Sem.run_bind,Sem.run_pure,Result.andThen_ok,run_program,hfn,hnm,hbd,Bool.false_eq_true,if_false]
    simp
  unfold Oper.wp
  rw [hrun,Oper.upon_enter]
  refine h.mono ?_
  rintro e w' ⟨v,rfl,hK⟩
  rw [hd]
  exact hK _ (hF.put hlt)
end
structure KeptX (α:Type) where
  v:Value
  l:List α
  X:Seg
  cv:Value
  Z:Seg
section
variable {α:Type}
def aS (ks:List (KeptX α)):Seg:=ks.flatMap fun k=>k.X++k.Z
def KOK (C:α→List Value) (e:TypeId) (sz:Nat) (k:KeptX α):Prop :=
  (∀ x∈k.l,(C x).length=sz)∧k.l.length≤9223372036854775807∧Buf e sz k.X k.v k.l.length (cel C k.l)∧Buf e sz k.Z k.cv k.l.length (cel C k.l)
def BookS (C:α→List Value) (BT se e:TypeId) (sz bb:Nat) (ks:List (KeptX α)) (Y:Seg):Prop :=
  ks.length≤4000∧∃ lv wv held XL XW,Buf se 1 XL lv ks.length (ks.map (·.v))∧Buf se 1 XW wv ks.length (ks.map (·.cv))∧(∀ k∈ks,KOK C e sz k)∧Y=row bb BT [lv,wv,.int .i64 held,.bool false]::(XL++(XW++aS ks))
theorem BookS.new (C:α→List Value) (BT se e:TypeId) (sz bb:Nat):BookS C BT se e sz bb [] [row bb BT [.slice none 0 0,.slice none 0 0,.int .i64 0,.bool false]] :=
  ⟨Nl _,_,_,0,[],[],Buf.nil _ _,Buf.nil _ _,(fun _ h=>by cases h),rfl⟩
theorem Buf.tail {e:TypeId} {X:Seg} {v u:Value} {m:Nat} {W:List Value} (h:Buf e 1 X v (m+1) (u::W)):∃ g c o,v= .slice (some ⟨g,o,none⟩) (m+1) (c+1)∧Buf e 1 X (.slice (some ⟨g,o+1,none⟩) m c) m W:=by
  rcases h.2 with ⟨_,h2,_⟩ | ⟨g,c,B,Z,h1,h2,h4,h5⟩
  · omega
  · obtain ⟨c',rfl⟩:∃ c',c=c'+1:=⟨c-1,ag⟩
    refine ⟨g,c',B.length,h1,?_,.inr ⟨g,c',B++[u],Z,by simp,ag,ag,by rw [h5]; simp⟩⟩
    have:=h.1
    simp only [List.length_cons] at this
    omega
theorem dL {ks:List (KeptX α)} {k:KeptX α} (h:k∈ks):k.X⊆aS ks∧k.Z⊆aS ks:=by
  refine ⟨fun r hr=>List.mem_flatMap.2 ⟨k,h,Nr _ hr⟩,fun r hr=>List.mem_flatMap.2 ⟨k,h,Ns _ hr⟩⟩
theorem Buf.rcIn {w0:World} {e:TypeId} {size m:Nat} {X Y:Seg} {v:Value} {W:List Value} {R:List Seg} (h:Buf e size X v m W) (hX:X⊆Y) (hY:Y∈R):∃ A c,v= .slice A m c∧m≤c∧c≤9223372036854775807∧Rc w0 R A W:=by
  obtain ⟨A,c,h1,h2,h3⟩:=h.cap
  obtain ⟨A',c',e1,_,e3⟩:=h.rc (w0:=w0) (R:=[X]) (Nu ..)
  rw [h1] at e1
  injection e1 with e1 _ _
  subst e1
  refine ⟨A,c,h1,h2,h3,e3.monoF (fun r hr=>?_)⟩
  rw [List.flatten_cons,List.flatten_nil,List.append_nil] at hr
  exact List.mem_flatten.2 ⟨Y,hY,hX hr⟩
end
section
variable {P:Program} {Q:Exit→Act→World→Prop} {w:World} {n:Nat} {F:List (Nat × Value)} {a:Act} {ops:Array Oper} {rest:List Oper} {o:Oper} {d:Nat}
theorem bD (hF:Fr n F a) (hd:o.dst=some d) {j dj:Nat} {want:Bool} {oj:Oper} (hg:o.guard=some (j,want)) (hj:ops[j]? = some oj) (hdj:oj.dst=some dj) (hl:Go.Dk.look F dj=some undef) (hlt:d<n)
    (h:∀ a',Fr n ((d,undef)::F) a'→wpList P ops Q rest a' w):wpList P ops Q (o::rest) a w :=
  wpList_step (fun K hK=>by
    have h1:=hF.has dj _ hl
    have h2:Region.wanted o (yielded ops a.tmps)=false:=by
      unfold Region.wanted
      simp only [hg,yielded,hj,hdj,Option.bind_some,h1]
      rfl
    rw [if_neg (by rw [h2]; simp),hd]
    exact hK _ _ (h _ (hF.put hlt)))
end
end Go.Dk
