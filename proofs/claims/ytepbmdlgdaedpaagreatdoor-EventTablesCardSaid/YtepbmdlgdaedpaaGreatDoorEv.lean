/- Texts that belong together, one behind the other. -/
import Derived.Test.YtepbmdlgdaedpaaGreatDoorHs
namespace Go.Dk
open Go Go.RowKit
def cel {α:Type} (C:α→List Value) (l:List α):List Value:=(l.map C).flatten
def cS (s:List UInt8):List Value:=[ak s]
theorem flat_one {α:Type} (f:α→Value) (xs:List α):(xs.map fun x=>[f x]).flatten=xs.map f:=by
  induction xs with
  | nil=>rfl
  | cons x xs ih=>rw [List.map_cons,List.flatten_cons,ih]; rfl
theorem lW (ss:List (List UInt8)):ss.map ak=cel cS ss:=(flat_one ak ss).symm
section
variable {α:Type} {C:α→List Value} {l m:List α} {sz i:Nat} {x:α}
theorem uo:cel C (x::l)=C x++cel C l:=by unfold cel; rw [List.map_cons,List.flatten_cons]
theorem gp:cel C (l++m)=cel C l++cel C m:=by unfold cel; rw [List.map_append,List.flatten_append]
theorem gW (h:∀ x∈l,(C x).length=sz):(cel C l).length=l.length*sz:=by
  have h1:=zi (z:=sz) (Ws:=l.map C) (fun W hW=>by obtain ⟨u,hu,rfl⟩:=List.mem_map.1 hW; exact h u hu)
  rwa [List.length_map] at h1
theorem Jq (h:∀ x∈l,(C x).length=sz) (hi:l[i]? = some x):((cel C l).drop (i*sz)).take sz=C x∧i*sz+sz≤(cel C l).length :=
  flat_at (z:=sz) (Ws:=l.map C) (V:=C x) (i:=i) (fun W hW=>by obtain ⟨u,hu,rfl⟩:=List.mem_map.1 hW; exact h u hu) (by rw [List.getElem?_map,hi]; rfl)
theorem MC {u:Value} (h:∀ x∈l,(C x).length=1) (hi:l[i]? = some x) (hx:C x=[u]):(cel C l)[i]? = some u∧i<(cel C l).length:=by
  obtain ⟨h1,h2⟩:=Jq h hi
  rw [Nat.mul_one,hx] at h1
  rw [Nat.mul_one] at h2
  refine ⟨?_,ag⟩
  have h3:((cel C l).drop i)[0]? = some u:=by
    have h4:(((cel C l).drop i).take 1)[0]? = some u:=by rw [h1]; rfl
    rwa [List.getElem?_take,if_pos ae] at h4
  rwa [List.getElem?_drop,Nat.add_zero] at h3
theorem DN (h:∀ x∈l,(C x).length=sz) (hi:i<l.length) (hx:(C x).length=sz):splice (cel C l) (i*sz) (C x)=cel C (l.set i x):=by
  have e:l=l.take i++l[i]::l.drop (i+1):=by rw [← List.drop_eq_getElem_cons hi,List.take_append_drop]
  have e2:l.set i x=l.take i++x::l.drop (i+1):=List.set_eq_take_append_cons_drop ▸ by rw [if_pos hi]
  have hl:(cel C (l.take i)).length=i*sz:=by rw [gW (fun y hy=>h y (List.mem_of_mem_take hy)),List.length_take,Nat.min_eq_left ag]
  have hl2:(C l[i]).length=sz:=h _ (List.getElem_mem hi)
  have e3:cel C l=cel C (l.take i)++(C l[i]++cel C (l.drop (i+1))):=by
    conv=>lhs; rw [e]
    rw [gp,uo]
  rw [e2,gp,uo,e3,splice,List.take_left' hl,hx,← List.drop_drop,List.drop_left' hl,List.drop_left' hl2,List.append_assoc]
theorem Jp {u:Value} (h:∀ x∈l,(C x).length=1) (hi:i<l.length) (hx:C x=[u]):(cel C l).set i u=cel C (l.set i x):=by
  have h1:=DN h hi (x:=x) (by rw [hx]; rfl)
  rw [← h1,Nat.mul_one,hx]
  have hl:=gW h
  have hlt:i<(cel C l).length:=by omega
  unfold splice
  rw [List.set_eq_take_append_cons_drop,if_pos hlt]
  simp
theorem qO (h:∀ x∈l,(C x).length=sz) (hm:∀ x∈m,(C x).length=sz) (hle:m.length≤l.length):splice (cel C l) 0 (cel C m)=cel C (m++l.drop m.length):=by
  have hl:(cel C (l.take m.length)).length=(cel C m).length:=by rw [gW (fun y hy=>h y (List.mem_of_mem_take hy)),gW hm,List.length_take,Nat.min_eq_left hle]
  have e3:cel C l=cel C (l.take m.length)++cel C (l.drop m.length):=by rw [← gp,List.take_append_drop]
  rw [gp,splice,List.take_zero,List.nil_append,Nat.zero_add]
  congr 1
  rw [e3,List.drop_left' hl]
theorem zX {z:α} {u:Value} {n:Nat} (hz:C z=List.replicate sz u):List.replicate (n*sz) u=cel C (List.replicate n z):=by
  induction n with
  | zero=>simp [cel]
  | succ n ih=>rw [List.replicate_succ,uo,← ih,hz,List.replicate_append_replicate,Nat.add_mul,Nat.one_mul,Nat.add_comm]
theorem zu {l:List α} {z y:α} {j k:Nat}:(l++List.replicate j y++List.replicate (k+1) z).set (l.length+j) y=l++List.replicate (j+1) y++List.replicate k z:=by
  rw [List.set_append,if_neg (by rw [List.length_append,List.length_replicate]; omega),List.length_append,List.length_replicate,Nat.sub_self,List.replicate_succ,List.set_cons_zero,List.replicate_succ',← List.append_assoc,List.append_assoc _ [y],List.singleton_append]
end
section
variable {P:Program} {Q:Exit→Act→World→Prop} {w w0 w':World} {n:Nat} {F:List (Nat × Value)} {a:Act} {o:Oper} {d:Nat} {R S:List Seg} {X:Seg} {e:TypeId} {size m:Nat} {v:Value} {W:List Value} {K:Act→World→Prop} {x y z:Operand} {t tx ty te:TypeId}
theorem yR (hF:Fr n F a) (hd:o.dst=some d) (hlt:d<n) (ho:o.op= .call { callee:= .builtin .copy,args := #[x,y],argTypes := #[tx,ty] }) (hA:Hp w0 S w)
    (hu:P.underlying tx=some (.slice e)) (hs:(P.info? e).map (·.size)=some size) (hs0:0<size) {D A:Option Addr} {dLen dc' sLen sc:Nat} (hx:ev F x=some (.slice D dLen dc')) (hy:ev F y=some (.slice A sLen sc))
    (k:Nat) (hk:k=Nat.min sLen dLen) (hW:W.length=k*size) (hr:Rc w0 R A W) (hq:Hq w0 R w) (hone:∀ v∈W,v.oneCell'=true) {g:Nat} (off:Nat) (i:Nat) {cs:List Value} {T:Seg} (hi:nth S i=some (row g te cs::T)) (hD:W≠[]→D=some ⟨g,off,none⟩) (hfit:off+W.length≤cs.length)
    (h:∀ w' a',Fr n ((d,.int .i64 (k:Nat))::F) a'→Hp w0 (sets S i (row g te (splice cs off W)::T)) w'→K a' w'):o.wp P a w K Q:=by
  have hrow:=hA.rowAt hi
  have hsz:=run_sizeOf (w:=w) hs
  have hxe:=hF.ev hx
  have hye:=hF.ev hy
  have hput:=(hA.at1 hi).put (k:=0) rfl (splice cs off W)
  have hA':=hA.then1 hi hput
  have hrun:(execOp a.eval o).run P w= .ok (.value (.int .i64 (k:Nat))) (w.setRow g (splice cs off W).toArray):=by
    by_cases hne:W=[]
    · subst hne
      have hk0:k=0:=by
        rcases Nat.mul_eq_zero.1 hW.symm with h | h
        · exact h
        · omega
      have hsame:splice cs off []=cs:=by simp [splice]
      have hself:=setRow_self w g _ te (0,0) hrow
      rw [hsame,hself]
      subst hk0
      have h0:Nat.min sLen dLen=0:=hk.symm
      unfold execOp
      cases A <;> cases D <;>
      simp [ho,hxe,hye,resolve,invoke,builtin,Builtin.copy_,run_underlying hu w,Builtin.lenOf,Builtin.firstCells,hsz,h0,storeCells,loadCells,loadCellsFrom,goInt]
    · obtain ⟨b,o',rfl,hc⟩:=hr hne
      obtain rfl:=hD hne
      obtain ⟨_,hcell⟩:=hc w hq
      have hl':=run_loadCells_list (P:=P) w ⟨b,o',none⟩ W (fun j v hj=>by
        rw [Addr.add_mid,hcell j (List.getElem?_eq_some_iff.1 hj).1,hj])
      have hst:=run_storeCells_at P g off te W 0 _ w hrow (by simpa using hfit) hone
      rw [hW] at hl'
      unfold execOp
      simp only [ho,hxe,hye,resolve,invoke,builtin,Builtin.copy_,Builtin.lenOf,Builtin.firstCells,List.map_toArray,List.map_cons,List.map_nil,Sem.run_bind,Sem.run_pure,Result.andThen_ok,run_underlying hu w,List.getElem?_toArray,List.getElem?_cons_zero,
        List.getElem?_cons_succ,hsz,← hk,hl',hst,goInt]
      simp [splice]
  unfold Oper.wp
  rw [hrun,Oper.upon_value,hd]
  exact h _ _ (hF.put hlt) hA'
theorem FW {f:FuncId} (hF:Fr n F a) (hd:o.dst=some d) (hlt:d<n) (hc:aP P f) {args:Array Operand} {ts:Array TypeId} (ho:o.op= .call { callee:= .value x,args:=args,argTypes:=ts }) (hx:ev F x=some (.func (.func f) #[] #[]))
    {vals:List Value} (hv:evs F args.toList=some vals) (h:Calls P f vals.toArray w (fun e w'=>∃ v,e= .returned v∧∀ a',Fr n ((d,v)::F) a'→K a' w')):o.wp P a w K Q:=by
  obtain ⟨fn,hfn,hnm,hbd⟩:=hc
  have hargs:args.map a.eval=vals.toArray:=by
    have h1:∀ (xs:List Operand) (vs:List Value),xs.map (Dk.ev F)=vs.map some→xs.map a.eval=vs:=by
      intro xs
      induction xs with
      | nil=>intro vs h; cases vs <;> simp_all
      | cons x xs ih =>
        intro vs h
        cases vs with
        | nil=>simp at h
        | cons u us =>
          simp only [List.map_cons,List.cons.injEq] at h
          simp only [List.map_cons,hF.ev h.1,ih us h.2]
    have h2:=h1 args.toList vals (zx _ _ hv)
    apply Array.ext'
    rw [Array.toList_map,h2]
  have hrun:(execOp a.eval o).run P w= .ok (.enter f vals.toArray) w:=by
    unfold execOp
    simp only [ho,resolve,hargs,hF.ev hx,Deferred.ofValue,invoke,callFunc,Sem.run_bind,Sem.run_pure,Result.andThen_ok,run_program,hfn,hnm,hbd,Bool.false_eq_true,if_false]
    simp
  unfold Oper.wp
  rw [hrun,Oper.upon_enter]
  refine h.mono ?_
  rintro e w' ⟨v,rfl,hK⟩
  rw [hd]
  exact hK _ (hF.put hlt)
end
structure KeptX (α:Type) where
  v:Value
  l:List α
  X:Seg
  cv:Value
  Z:Seg
section
variable {α:Type}
def MS (ks:List (KeptX α)):Seg:=ks.flatMap fun k=>k.X++k.Z
def KOK (C:α→List Value) (e:TypeId) (sz:Nat) (k:KeptX α):Prop :=
  (∀ x∈k.l,(C x).length=sz)∧k.l.length≤9223372036854775807∧Buf e sz k.X k.v k.l.length (cel C k.l)∧Buf e sz k.Z k.cv k.l.length (cel C k.l)
def BookS (C:α→List Value) (BT se e:TypeId) (sz bb:Nat) (ks:List (KeptX α)) (Y:Seg):Prop :=
  ks.length≤4000∧∃ lv wv held XL XW,Buf se 1 XL lv ks.length (ks.map (·.v))∧Buf se 1 XW wv ks.length (ks.map (·.cv))∧(∀ k∈ks,KOK C e sz k)∧Y=row bb BT [lv,wv,.int .i64 held,.bool false]::(XL++(XW++MS ks))
theorem BookS.new (C:α→List Value) (BT se e:TypeId) (sz bb:Nat):BookS C BT se e sz bb [] [row bb BT [.slice none 0 0,.slice none 0 0,.int .i64 0,.bool false]] :=
  ⟨PU _,_,_,0,[],[],Buf.nil _ _,Buf.nil _ _,(fun _ h=>by cases h),rfl⟩
theorem Buf.tail {e:TypeId} {X:Seg} {v u:Value} {m:Nat} {W:List Value} (h:Buf e 1 X v (m+1) (u::W)):∃ g c o,v= .slice (some ⟨g,o,none⟩) (m+1) (c+1)∧Buf e 1 X (.slice (some ⟨g,o+1,none⟩) m c) m W:=by
  rcases h.2 with ⟨_,h2,_⟩ | ⟨g,c,B,Z,h1,h2,h4,h5⟩
  · omega
  · obtain ⟨c',rfl⟩:∃ c',c=c'+1:=⟨c-1,ag⟩
    refine ⟨g,c',B.length,h1,?_,.inr ⟨g,c',B++[u],Z,by simp,ag,ag,by rw [h5]; simp⟩⟩
    have:=h.1
    simp only [List.length_cons] at this
    omega
end
section
variable {P:Program} {Q:Exit→Act→World→Prop} {w:World} {n:Nat} {F:List (Nat × Value)} {a:Act} {ops:Array Oper} {rest:List Oper} {o:Oper} {d:Nat}
theorem bg (hF:Fr n F a) (hd:o.dst=some d) {j dj:Nat} {want:Bool} {oj:Oper} (hg:o.guard=some (j,want)) (hj:ops[j]? = some oj) (hdj:oj.dst=some dj) (hl:Go.Dk.look F dj=some undef) (hlt:d<n)
    (h:∀ a',Fr n ((d,undef)::F) a'→wpList P ops Q rest a' w):wpList P ops Q (o::rest) a w :=
  wpList_step (fun K hK=>by
    have h1:=hF.has dj _ hl
    have h2:Region.wanted o (yielded ops a.tmps)=false:=by
      unfold Region.wanted
      simp only [hg,yielded,hj,hdj,Option.bind_some,h1]
      rfl
    rw [if_neg (by rw [h2]; simp),hd]
    exact hK _ _ (h _ (hF.put hlt)))
end
end Go.Dk
namespace Go.Dk
open Go Go.RowKit
section
variable {P:Program} {w:World} {n:Nat} {F:List (Nat × Value)} {o:Oper} {a:Act} {t t' e ti:TypeId} {x y:Operand} {v:Value} {ops:Array Oper} {Q:Exit→Act→World→Prop} {rest:List Oper} {d:Nat}
theorem bytes_at {s:List UInt8} {j:Nat} {b:UInt8} (hb:s[j]? = some b):(⟨s.toArray⟩:ByteArray)[j]? = some b:=by
  obtain ⟨hj,he⟩:=List.getElem?_eq_some_iff.1 hb
  rw [getElem?_pos (⟨s.toArray⟩:ByteArray) j (by show j<s.toArray.size; simpa using hj)]
  show some (s.toArray[j]'_)=some b
  simp [he]
theorem mD {kd:IntKind} {p:Int} {s:List UInt8} (ho:o.op= .index t x y) (hu:P.underlying t=some .string) (hx:ev F x=some (ak s)) (hy:ev F y=some (.int kd p)) (j:Nat) (hp:p=j) {b:UInt8} (hb:s[j]? = some b):Yd P n F o w (.int .u8 (b.toNat:Int)):=fun a hF=>by
  subst hp
  have h1:(0:Int)≤(j:Int):=by omega
  have hb2:=bytes_at hb
  unfold execOp
  simp only [ho,hF.ev hx,hF.ev hy,Instr.index,asIntOf,Sem.run_bind,Sem.run_pure,Result.andThen_ok,run_underlying hu w,h1,if_true,Int.toNat_natCast,hb2]
theorem FU {m:Nat} {kd:IntKind} {p:Int} {cs:List Value} (ho:o.op= .index t x y) (hu:P.underlying t=some (.array m e)) (he:P.underlying e=some .string) (hs:(P.info? e).map (·.size)=some 1) (hx:ev F x=some (.agg cs.toArray)) (hy:ev F y=some (.int kd p)) (j:Nat) (hp:p=j) (hj:j<m) (hv:cs[j]? = some v):Yd P n F o w v:=fun a hF=>by
  subst hp
  have h1:(0:Int)≤(j:Int)∧(j:Int)<(m:Int):=by omega
  have hpart:(part e cs.toArray (j*1)).run P w= .ok v w:=by simp [part,isAgg,run_underlying he,hv]
  unfold execOp
  simp only [ho,hF.ev hx,hF.ev hy,Instr.index,asIntOf,Sem.run_bind,Sem.run_pure,Result.andThen_ok,run_underlying hu w,h1,and_self,if_true,run_sizeOf hs,Int.toNat_natCast,hpart]
theorem tf (b:Bool):b=false∨b=true:=by cases b <;> simp
theorem aj {g want:Bool} (h:g=want):some (Value.bool g)=some (.bool want):=by rw [h]
theorem aJ {g want:Bool} (h:g = !want):(g == want)=false:=by subst h; cases want <;> rfl
theorem bD {g:Bool} {x1 x2:Operand} (h:g=true) (ho:o.op= .pick x x1 x2) (hx:ev F x=some (.bool g)) (hv:ev F x1=some v):Yd P n F o w v:=dw (c:=true) ho (hx.trans (aj h)) hv
theorem aZ {g:Bool} {x1 x2:Operand} (h:g=false) (ho:o.op= .pick x x1 x2) (hx:ev F x=some (.bool g)) (hv:ev F x2=some v):Yd P n F o w v:=dw (c:=false) ho (hx.trans (aj h)) hv
theorem bK {l l2:List Oper} (_hF:Fr n F a) (F':List (Nat × Value)) (h1:(∀ a,Fr n F' a→wpList P ops Q l2 a w)→wpList P ops Q l a w) (h2:∀ a,Fr n F' a→wpList P ops Q l2 a w):wpList P ops Q l a w:=h1 h2
theorem Fr.bool {g h:Bool} {d:Nat} (hF:Fr n ((d,.bool g)::F) a) (e:g=h):Fr n ((d,.bool h)::F) a:=e ▸ hF
end
end Go.Dk
