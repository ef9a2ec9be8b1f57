/- Texts that belong together, one behind the other. -/
import Derived.Test.YtpomngkcfbnjoaaGreatDoorHs
import Derived.Test.YtpomngkcfbnjoaaGreatDoorOff
import Derived.Lib.BitFns
namespace Go.Dk
open Go Go.RowKit
def cel {α:Type} (C:α→List Value) (l:List α):List Value:=(l.map C).flatten
def cB (b:UInt8):List Value:=[.int .u8 (b.toNat:Int)]
theorem flat_one {α:Type} (f:α→Value) (xs:List α):(xs.map fun x=>[f x]).flatten=xs.map f:=by
  induction xs with
  | nil=>rfl
  | cons x xs ih=>rw [List.map_cons,List.flatten_cons,ih]; rfl
theorem FC (l:List UInt8):dc l=cel cB l:=(flat_one (fun b:UInt8=>Value.int .u8 (b.toNat:Int)) l).symm
section
variable {α:Type} {C:α→List Value} {l m:List α} {sz i:Nat} {x:α}
theorem Ql:cel C []=[]:=rfl
theorem xY:cel C (x::l)=C x++cel C l:=by unfold cel; rw [List.map_cons,List.flatten_cons]
theorem je:cel C (l++m)=cel C l++cel C m:=by unfold cel; rw [List.map_append,List.flatten_append]
theorem nH (h:∀ x∈l,(C x).length=sz):(cel C l).length=l.length*sz:=by
  have h1:=Dt (z:=sz) (Ws:=l.map C) (fun W hW=>by obtain ⟨u,hu,rfl⟩:=List.mem_map.1 hW; exact h u hu)
  rwa [List.length_map] at h1
theorem xZ (h:∀ x∈l,(C x).length=sz) (hi:l[i]? = some x):((cel C l).drop (i*sz)).take sz=C x∧i*sz+sz≤(cel C l).length :=
  flat_at (z:=sz) (Ws:=l.map C) (V:=C x) (i:=i) (fun W hW=>by obtain ⟨u,hu,rfl⟩:=List.mem_map.1 hW; exact h u hu) (by rw [List.getElem?_map,hi]; rfl)
theorem Qm {u:Value} (h:∀ x∈l,(C x).length=1) (hi:l[i]? = some x) (hx:C x=[u]):(cel C l)[i]? = some u∧i<(cel C l).length:=by
  obtain ⟨h1,h2⟩:=xZ h hi
  rw [Nat.mul_one,hx] at h1
  rw [Nat.mul_one] at h2
  refine ⟨?_,ag⟩
  have h3:((cel C l).drop i)[0]? = some u:=by
    have h4:(((cel C l).drop i).take 1)[0]? = some u:=by rw [h1]; rfl
    rwa [List.getElem?_take,if_pos ae] at h4
  rwa [List.getElem?_drop,Nat.add_zero] at h3
theorem Qk (h:∀ x∈l,(C x).length=sz) (hi:i<l.length) (hx:(C x).length=sz):splice (cel C l) (i*sz) (C x)=cel C (l.set i x):=by
  have e:l=l.take i++l[i]::l.drop (i+1):=by rw [← List.drop_eq_getElem_cons hi,List.take_append_drop]
  have e2:l.set i x=l.take i++x::l.drop (i+1):=List.set_eq_take_append_cons_drop ▸ by rw [if_pos hi]
  have hl:(cel C (l.take i)).length=i*sz:=by rw [nH (fun y hy=>h y (List.mem_of_mem_take hy)),List.length_take,Nat.min_eq_left ag]
  have hl2:(C l[i]).length=sz:=h _ (List.getElem_mem hi)
  have e3:cel C l=cel C (l.take i)++(C l[i]++cel C (l.drop (i+1))):=by
    conv=>lhs; rw [e]
    rw [je,xY]
  rw [e2,je,xY,e3,splice,List.take_left' hl,hx,← List.drop_drop,List.drop_left' hl,List.drop_left' hl2,List.append_assoc]
end
section
variable {P:Program} {Q:Exit→Act→World→Prop} {w w0 w':World} {n:Nat} {F:List (Nat × Value)} {a:Act} {o:Oper} {d:Nat} {R S:List Seg} {X:Seg} {e:TypeId} {size m:Nat} {v:Value} {W:List Value} {K:Act→World→Prop} {x y z:Operand} {t tx ty te:TypeId}
theorem Dl (hF:Fr n F a) (hd:o.dst=some d) (hlt:d<n) (ho:o.op= .call { callee:= .builtin .copy,args := #[x,y],argTypes := #[tx,ty] }) (hA:Hp w0 S w)
    (hu:P.underlying tx=some (.slice e)) (hs:(P.info? e).map (·.size)=some size) (hs0:0<size) {D A:Option Addr} {dLen dc' sLen sc:Nat} (hx:ev F x=some (.slice D dLen dc')) (hy:ev F y=some (.slice A sLen sc))
    (k:Nat) (hk:k=Nat.min sLen dLen) (hW:W.length=k*size) (hr:Rc w0 R A W) (hq:Hq w0 R w) (hone:∀ v∈W,v.oneCell'=true) {g:Nat} (off:Nat) (i:Nat) {cs:List Value} {T:Seg} (hi:nth S i=some (row g te cs::T)) (hD:W≠[]→D=some ⟨g,off,none⟩) (hfit:off+W.length≤cs.length)
    (h:∀ w' a',Fr n ((d,.int .i64 (k:Nat))::F) a'→Hp w0 (sets S i (row g te (splice cs off W)::T)) w'→K a' w'):o.wp P a w K Q:=by
  have hrow:=hA.rowAt hi
  have hsz:=run_sizeOf (w:=w) hs
  have hxe:=hF.ev hx
  have hye:=hF.ev hy
  have hput:=(hA.at1 hi).put (k:=0) rfl (splice cs off W)
  have hA':=hA.then1 hi hput
  have hrun:(execOp a.eval o).run P w= .ok (.value (.int .i64 (k:Nat))) (w.setRow g (splice cs off W).toArray):=by
    by_cases hne:W=[]
    · subst hne
      have hk0:k=0:=by
        rcases Nat.mul_eq_zero.1 hW.symm with h | h
        · exact h
        · omega
      have hsame:splice cs off []=cs:=by simp [splice]
      have hself:=setRow_self w g _ te (0,0) hrow
      rw [hsame,hself]
      subst hk0
      have h0:Nat.min sLen dLen=0:=hk.symm
      unfold execOp
      cases A <;> cases D <;>
      simp [ho,hxe,hye,resolve,invoke,builtin,Builtin.copy_,run_underlying hu w,Builtin.lenOf,Builtin.firstCells,hsz,h0,storeCells,loadCells,loadCellsFrom,goInt]
    · obtain ⟨b,o',rfl,hc⟩:=hr hne
      obtain rfl:=hD hne
      obtain ⟨_,hcell⟩:=hc w hq
      have hl':=run_loadCells_list (P:=P) w ⟨b,o',none⟩ W (fun j v hj=>by
        rw [Addr.add_mid,hcell j (List.getElem?_eq_some_iff.1 hj).1,hj])
      have hst:=run_storeCells_at P g off te W 0 _ w hrow (by simpa using hfit) hone
      rw [hW] at hl'
      unfold execOp
      simp only [ho,hxe,hye,resolve,invoke,builtin,Builtin.copy_,Builtin.lenOf,Builtin.firstCells,List.map_toArray,List.map_cons,List.map_nil,Sem.run_bind,Sem.run_pure,Result.andThen_ok,run_underlying hu w,List.getElem?_toArray,List.getElem?_cons_zero,
        List.getElem?_cons_succ,hsz,← hk,hl',hst,goInt]
      simp [splice]
  unfold Oper.wp
  rw [hrun,Oper.upon_value,hd]
  exact h _ _ (hF.put hlt) hA'
theorem qW {f:FuncId} (hF:Fr n F a) (hd:o.dst=some d) (hlt:d<n) (hc:aG P f) {args:Array Operand} {ts:Array TypeId} (ho:o.op= .call { callee:= .value x,args:=args,argTypes:=ts }) (hx:ev F x=some (.func (.func f) #[] #[]))
    {vals:List Value} (hv:evs F args.toList=some vals) (h:Calls P f vals.toArray w (fun e w'=>∃ v,e= .returned v∧∀ a',Fr n ((d,v)::F) a'→K a' w')):o.wp P a w K Q:=by
  obtain ⟨fn,hfn,hnm,hbd⟩:=hc
  have hargs:args.map a.eval=vals.toArray:=by
    have h1:∀ (xs:List Operand) (vs:List Value),xs.map (Dk.ev F)=vs.map some→xs.map a.eval=vs:=by
      intro xs
      induction xs with
      | nil=>intro vs h; cases vs <;> simp_all
      | cons x xs ih =>
        intro vs h
        cases vs with
        | nil=>simp at h
        | cons u us =>
          simp only [List.map_cons,List.cons.injEq] at h
          simp only [List.map_cons,hF.ev h.1,ih us h.2]
    have h2:=h1 args.toList vals (sN _ _ hv)
    apply Array.ext'
    rw [Array.toList_map,h2]
  have hrun:(execOp a.eval o).run P w= .ok (.enter f vals.toArray) w:=by
    unfold execOp
    simp only [ho,resolve,hargs,hF.ev hx,Deferred.ofValue,invoke,callFunc,Sem.run_bind,Sem.run_pure,Result.andThen_ok,run_program,hfn,hnm,hbd,Bool.false_eq_true,if_false]
    simp
  unfold Oper.wp
  rw [hrun,Oper.upon_enter]
  refine h.mono ?_
  rintro e w' ⟨v,rfl,hK⟩
  rw [hd]
  exact hK _ (hF.put hlt)
end
structure KeptX (α:Type) where
  v:Value
  l:List α
  X:Seg
  cv:Value
  Z:Seg
section
variable {α:Type}
def bf (ks:List (KeptX α)):Seg:=ks.flatMap fun k=>k.X++k.Z
def KOK (C:α→List Value) (e:TypeId) (sz:Nat) (k:KeptX α):Prop :=
  (∀ x∈k.l,(C x).length=sz)∧k.l.length≤9223372036854775807∧Buf e sz k.X k.v k.l.length (cel C k.l)∧Buf e sz k.Z k.cv k.l.length (cel C k.l)
def BookS (C:α→List Value) (BT se e:TypeId) (sz bb:Nat) (ks:List (KeptX α)) (Y:Seg):Prop :=
  ks.length≤4000∧∃ lv wv held XL XW,Buf se 1 XL lv ks.length (ks.map (·.v))∧Buf se 1 XW wv ks.length (ks.map (·.cv))∧(∀ k∈ks,KOK C e sz k)∧Y=row bb BT [lv,wv,.int .i64 held,.bool false]::(XL++(XW++bf ks))
theorem BookS.new (C:α→List Value) (BT se e:TypeId) (sz bb:Nat):BookS C BT se e sz bb [] [row bb BT [.slice none 0 0,.slice none 0 0,.int .i64 0,.bool false]] :=
  ⟨Tv _,_,_,0,[],[],Buf.nil _ _,Buf.nil _ _,(fun _ h=>by cases h),rfl⟩
theorem Buf.tail {e:TypeId} {X:Seg} {v u:Value} {m:Nat} {W:List Value} (h:Buf e 1 X v (m+1) (u::W)):∃ g c o,v= .slice (some ⟨g,o,none⟩) (m+1) (c+1)∧Buf e 1 X (.slice (some ⟨g,o+1,none⟩) m c) m W:=by
  rcases h.2 with ⟨_,h2,_⟩ | ⟨g,c,B,Z,h1,h2,h4,h5⟩
  · omega
  · obtain ⟨c',rfl⟩:∃ c',c=c'+1:=⟨c-1,ag⟩
    refine ⟨g,c',B.length,h1,?_,.inr ⟨g,c',B++[u],Z,by simp,ag,ag,by rw [h5]; simp⟩⟩
    have:=h.1
    simp only [List.length_cons] at this
    omega
theorem fG {ks:List (KeptX α)} {k:KeptX α} (h:k∈ks):k.X⊆bf ks∧k.Z⊆bf ks:=by
  refine ⟨fun r hr=>List.mem_flatMap.2 ⟨k,h,TD _ hr⟩,fun r hr=>List.mem_flatMap.2 ⟨k,h,TE _ hr⟩⟩
theorem Buf.rcIn {w0:World} {e:TypeId} {size m:Nat} {X Y:Seg} {v:Value} {W:List Value} {R:List Seg} (h:Buf e size X v m W) (hX:X⊆Y) (hY:Y∈R):∃ A c,v= .slice A m c∧m≤c∧c≤9223372036854775807∧Rc w0 R A W:=by
  obtain ⟨A,c,h1,h2,h3⟩:=h.cap
  obtain ⟨A',c',e1,_,e3⟩:=h.rc (w0:=w0) (R:=[X]) (TF ..)
  rw [h1] at e1
  injection e1 with e1 _ _
  subst e1
  refine ⟨A,c,h1,h2,h3,e3.monoF (fun r hr=>?_)⟩
  rw [List.flatten_cons,List.flatten_nil,List.append_nil] at hr
  exact List.mem_flatten.2 ⟨Y,hY,hX hr⟩
end
section
variable {P:Program} {Q:Exit→Act→World→Prop} {w:World} {n:Nat} {F:List (Nat × Value)} {a:Act} {ops:Array Oper} {rest:List Oper} {o:Oper} {d:Nat}
theorem dW (hF:Fr n F a) (hd:o.dst=some d) {j dj:Nat} {want:Bool} {oj:Oper} (hg:o.guard=some (j,want)) (hj:ops[j]? = some oj) (hdj:oj.dst=some dj) (hl:Go.Dk.look F dj=some undef) (hlt:d<n)
    (h:∀ a',Fr n ((d,undef)::F) a'→wpList P ops Q rest a' w):wpList P ops Q (o::rest) a w :=
  wpList_step (fun K hK=>by
    have h1:=hF.has dj _ hl
    have h2:Region.wanted o (yielded ops a.tmps)=false:=by
      unfold Region.wanted
      simp only [hg,yielded,hj,hdj,Option.bind_some,h1]
      rfl
    rw [if_neg (by rw [h2]; simp),hd]
    exact hK _ _ (h _ (hF.put hlt)))
end
end Go.Dk
namespace Go.Proofs.YtpomngkcfbnjoaaGreatDoor
open Go Go.RowKit Go.Dk
def iF (bs:List UInt8) (h:Nat):Bool:=(bAt bs (h/8)).toNat/2 ^ (h%8)%2 == 1
def jo (bs:List UInt8) (h:Nat):Nat:=if iF bs h then 1 else 0
def dh (bs:List UInt8):Nat→Nat
  | 0=>0
  | h+1=>dh bs h+jo bs h
def bK (k:List UInt8) (i:Nat):Nat:=(bAt k (i/8)).toNat/2 ^ (7-i%8)%2
structure Prf where
  pr:Bool
  ct:Int
  ch:List UInt8
  bs:List UInt8
  ss:List (List UInt8)
def Prf.cells (p:Prf) (sv:Value):List Value:= .bool p.pr:: .int .i64 p.ct::(dc p.ch++(dc p.bs++[sv]))
structure Prf.OK (p:Prf):Prop where
  ch:p.ch.length=32
  bs:p.bs.length=32
  ss:∀ d∈p.ss,d.length=32
  few:p.ss.length≤300
def Prf.counted (p:Prf):Bool:=decide (1≤p.ct∧p.ct≤1099511627776)
def Prf.blank (p:Prf):Bool:=decide (p.ct=0∧p.ch=List.replicate 32 0)
def Prf.formed (p:Prf):Bool:=decide (dh p.bs 256=p.ss.length) && (if p.pr then p.counted else p.blank)
def Prf.dig (p:Prf) (h:Nat):List UInt8:=p.ss[dh p.bs h]?.getD []
def Prf.badAt (p:Prf) (width:Int) (h:Nat):Bool:=iF p.bs h && (decide (p.dig h=aK width h) || decide (¬ gZ (p.dig h) width=p.dig h))
def Prf.bad (p:Prf) (width:Int):Nat→Bool
  | 0=>false
  | h+1=>p.bad width h || p.badAt width h
def Prf.err (p:Prf) (width:Int):Nat:=if p.formed then (if p.bad width 256 then 170 else 0) else 8
def Prf.side (p:Prf) (width:Int) (h:Nat):List UInt8:=if iF p.bs h then p.dig h else aK width h
def Prf.text0 (p:Prf) (k:List UInt8):List UInt8:=if p.pr then 3::(k++be 8 (c64 p.ct)++p.ch) else [5]
def stepT (k d n:List UInt8) (h:Nat):List UInt8:=4::(if bK k (255-h)=0 then d++n else n++d)
def Prf.lead (p:Prf) (width:Int) (k:List UInt8):Nat→List UInt8
  | 0=>gZ (sha (p.text0 k)) width
  | h+1=>gZ (sha (stepT k (p.lead width k h) (p.side width h) h)) width
def Prf.text (p:Prf) (width:Int) (k:List UInt8):Nat→List UInt8
  | 0=>p.text0 k
  | h+1=>stepT k (p.lead width k h) (p.side width h) h
theorem Prf.lead_eq (p:Prf) (width:Int) (k:List UInt8) (h:Nat):p.lead width k h=gZ (sha (p.text width k h)) width:=by cases h <;> rfl
theorem Prf.lead_length (p:Prf) (width:Int) (k:List UInt8) (h:Nat):(p.lead width k h).length=32:=by rw [p.lead_eq]; exact dJ _ _ (dH _)
def Prf.check (p:Prf) (width:Int) (root k:List UInt8):Nat:=if p.err width=0 then (if p.lead width k 256=root then 0 else 171) else p.err width
theorem Qo (bs:List UInt8) (h:Nat):jo bs h≤1:=by unfold jo; split <;> omega
theorem sZ {bs:List UInt8} {h:Nat} (b:iF bs h=true):jo bs h=1:=by unfold jo; rw [b]; rfl
theorem vN {bs:List UInt8} {h:Nat} (b:iF bs h=false):jo bs h=0:=by unfold jo; rw [b]; rfl
theorem mG (bs:List UInt8) (h:Nat):dh bs h≤h:=by
  induction h with
  | zero=>exact TG _
  | succ h ih=>have:=Qo bs h; show dh bs h+jo bs h≤_; omega
theorem EY (bs:List UInt8) {h k:Nat} (hk:h≤k):dh bs h≤dh bs k:=by
  induction k with
  | zero=>rw [show h=0 by omega]; exact TG _
  | succ k ih =>
    by_cases e:h=k+1
    · rw [e]; exact TG _
    · have:=ih ag; show _≤dh bs k+jo bs k; omega
theorem LU {bs:List UInt8} {h k:Nat} (b:iF bs h=true) (hk:h<k):dh bs h<dh bs k:=by
  have h1:=EY bs (show h+1≤k by omega)
  have h2:dh bs (h+1)=dh bs h+jo bs h:=rfl
  rw [sZ b] at h2
  omega
def y9 (b:UInt8):Nat:=Lib.onesCount b.toNat
theorem LD:∀ n:Fin 256,Lib.onesCount n.val=n.val%2+n.val/2%2+n.val/4%2+n.val/8%2+n.val/16%2+n.val/32%2+n.val/64%2+n.val/128%2:=by decide +kernel
theorem D6 (bs:List UInt8) (h:Nat):jo bs h=(bAt bs (h/8)).toNat/2 ^ (h%8)%2:=by
  unfold jo iF
  generalize (bAt bs (h/8)).toNat/2 ^ (h%8)=z
  rcases Nat.mod_two_eq_zero_or_one z with e | e <;> simp [e]
theorem nJ (bs:List UInt8) (i j:Nat) (hj:j<8):jo bs (8*i+j)=(bAt bs i).toNat/2 ^ j%2:=by
  rw [D6,show (8*i+j)/8=i by omega,show (8*i+j)%8=j by omega]
theorem EZ (bs:List UInt8) (i:Nat):dh bs (8*(i+1))=dh bs (8*i)+y9 (bAt bs i):=by
  have e:dh bs (8*(i+1))=dh bs (8*i)+jo bs (8*i+0)+jo bs (8*i+1)+jo bs (8*i+2)+jo bs (8*i+3)+jo bs (8*i+4)+jo bs (8*i+5)+jo bs (8*i+6)+jo bs (8*i+7):=by
    rw [show 8*(i+1)=8*i+8 by omega]; rfl
  have h1:=LD ⟨(bAt bs i).toNat,(bAt bs i).toNat_lt⟩
  unfold y9
  rw [e,nJ bs i 0 ae,nJ bs i 1 ae,nJ bs i 2 ae,nJ bs i 3 ae,nJ bs i 4 ae,nJ bs i 5 ae,nJ bs i 6 ae,nJ bs i 7 ae]
  simp only [Nat.reducePow,Nat.div_one] at h1 ⊢
  rw [h1]
  simp only [Nat.add_assoc]
theorem Lu:∀ n:Fin 256,Lib.onesCount n.val≤8:=by decide +kernel
theorem LC (b:UInt8):y9 b≤8:=Lu ⟨b.toNat,b.toNat_lt⟩
theorem oH (k:List UInt8) (i:Nat):bK k i=0∨bK k i=1:=by unfold bK; exact Nat.mod_two_eq_zero_or_one _
theorem BJ (b:UInt8) (j:Nat) (hj:j<8):(b.toNat:Int).fdiv (2 ^ min (j:Int).toNat IntKind.u8.bits)=((b.toNat/2 ^ j:Nat):Int):=by
  rw [show IntKind.u8.bits=8 from rfl,show min (j:Int).toNat 8=j by omega,Int.fdiv_eq_ediv_of_nonneg _ (Int.pow_nonneg ae)]
  rw [show ((2:Int) ^ j)=((2 ^ j:Nat):Int) by rw [Int.natCast_pow]; rfl]
  rfl
theorem Qr:∀ n:Fin 256,bits .and .u8 (n.val:Int) 1=((n.val%2:Nat):Int):=by decide +kernel
theorem NT:∀ n:Fin 256,bits .and .i64 (n.val:Int) 1=((n.val%2:Nat):Int):=by decide +kernel
theorem nI (b:UInt8) (j:Nat):b.toNat/2 ^ j<256:=Nat.lt_of_le_of_lt (Nat.div_le_self ..) b.toNat_lt
theorem Qn (bs:List UInt8) (h:Nat):bits .and .u8 (((bAt bs (h/8)).toNat/2 ^ (h%8):Nat):Int) 1=(jo bs h:Int):=by
  rw [D6]; exact Qr ⟨_,nI _ _⟩
theorem Pn (k:List UInt8) (i:Nat):bits .and .i64 (((bAt k (i/8)).toNat/2 ^ (7-i%8):Nat):Int) 1=(bK k i:Int):=NT ⟨_,nI _ _⟩
section
variable {p:Prf} {sv:Value}
theorem Prf.c_len (hp:p.OK):(p.cells sv).length=67:=by
  unfold Prf.cells
  simp only [List.length_cons,List.length_append,aj,hp.ch,hp.bs,List.length_nil]
theorem Prf.c_ent (hp:p.OK):((p.cells sv).drop 1).take 33= .int .i64 p.ct::dc p.ch:=by
  unfold Prf.cells
  show (Value.int .i64 p.ct::(dc p.ch++(dc p.bs++[sv]))).take (32+1)=_
  rw [List.take_succ_cons,List.take_left' (by rw [aj,hp.ch])]
theorem Prf.c_bits (hp:p.OK):((p.cells sv).drop 34).take 32=dc p.bs:=by
  unfold Prf.cells
  show ((dc p.ch++(dc p.bs++[sv])).drop 32).take 32=_
  rw [List.drop_left' (by rw [aj,hp.ch]),List.take_left' (by rw [aj,hp.bs])]
theorem Prf.c_bit (hp:p.OK) {i:Nat} (hi:i<32):(p.cells sv)[34+i]? = some (.int .u8 ((bAt p.bs i).toNat:Int)):=by
  have h1:(((p.cells sv).drop 34).take 32)[i]? = some (.int .u8 ((bAt p.bs i).toNat:Int)):=by rw [Prf.c_bits hp]; exact iP (by rw [hp.bs]; exact hi)
  rwa [List.getElem?_take,if_pos hi,List.getElem?_drop] at h1
theorem Prf.c_sums (hp:p.OK):(p.cells sv)[66]? = some sv:=by
  unfold Prf.cells
  show (dc p.ch++(dc p.bs++[sv]))[64]? = _
  rw [List.getElem?_append_right (by rw [aj,hp.ch]; decide),aj,hp.ch,List.getElem?_append_right (by rw [aj,hp.bs]; decide),aj,hp.bs]
  rfl
theorem Prf.c_chain (hp:p.OK):((p.cells sv).drop 2).take 32=dc p.ch:=by
  unfold Prf.cells
  show ((dc p.ch++(dc p.bs++[sv])).take 32)=_
  rw [List.take_left' (by rw [aj,hp.ch])]
theorem Prf.c_all (hp:p.OK):((p.cells sv).drop 0).take 67=p.cells sv:=by rw [List.drop_zero]; exact TJ (by rw [Prf.c_len hp]; decide)
theorem Prf.c_one (hsv:sv.oneCell'=true):∀ v∈p.cells sv,v.oneCell'=true:=by
  unfold Prf.cells
  intro v hv
  simp only [List.mem_cons,List.mem_append,List.not_mem_nil,or_false] at hv
  rcases hv with rfl | rfl | h | h | rfl
  · rfl
  · rfl
  · exact bz _ v h
  · exact bz _ v h
  · exact hsv
theorem Prf.c_set (hp:p.OK) (u:Value):(p.cells sv).set 66 u=p.cells u:=by
  unfold Prf.cells
  show .bool p.pr:: .int .i64 p.ct::((dc p.ch++(dc p.bs++[sv])).set 64 u)=_
  rw [List.set_append,if_neg (by rw [aj,hp.ch]; decide),List.set_append,if_neg (by rw [aj,aj,hp.ch,hp.bs]; decide),aj,aj,hp.ch,hp.bs]
  rfl
end
theorem CB (i:Nat) (hi:i<256):IntKind.i64.wrap ((i:Int).tdiv 8)=((i/8:Nat):Int):=by
  rw [Int.tdiv_eq_ediv_of_nonneg ag,TB _ ag]; omega
theorem EP (i:Nat):(i:Int).tmod 8=((i%8:Nat):Int):=by rw [Int.tmod_eq_emod_of_nonneg ag]; omega
theorem QC (n:Nat):(n:Int).tmod 2=((n%2:Nat):Int):=by rw [Int.tmod_eq_emod_of_nonneg ag]; omega
theorem uT {n:Nat} (h:n<256):IntKind.i64.wrap (n:Int)=(n:Int):=TB _ ag
theorem OD (b:UInt8) (i:Nat):(b.toNat:Int).fdiv (2 ^ min ((7:Int)-((i%8:Nat):Int)).toNat IntKind.u8.bits)=((b.toNat/2 ^ (7-i%8):Nat):Int):=by
  rw [show ((7:Int)-((i%8:Nat):Int))=((7-i%8:Nat):Int) by omega]
  exact BJ b _ ag
theorem F8:∀ j:Fin 8,IntKind.i64.wrap (1*2 ^ min ((j.val:Int)).toNat IntKind.i64.bits)=((2 ^ j.val:Nat):Int):=by decide +kernel
theorem OE (i:Nat):IntKind.i64.wrap (1*2 ^ min ((7:Int)-((i%8:Nat):Int)).toNat IntKind.i64.bits)=((2 ^ (7-i%8):Nat):Int):=by
  rw [show ((7:Int)-((i%8:Nat):Int))=((7-i%8:Nat):Int) by omega]
  exact F8 ⟨7-i%8,ag⟩
theorem OG (i:Nat):IntKind.i64.wrap (1*2 ^ min (((i%8:Nat):Int)).toNat IntKind.i64.bits)=((2 ^ (i%8):Nat):Int):=F8 ⟨i%8,ag⟩
theorem Lt (j:Nat):((2 ^ j:Nat):Int)≠0:=by have:=Nat.two_pow_pos j; omega
theorem Gp (b:UInt8) (j:Nat):IntKind.i64.wrap ((b.toNat:Int).tdiv ((2 ^ j:Nat):Int))=((b.toNat/2 ^ j:Nat):Int):=by
  rw [Int.tdiv_eq_ediv_of_nonneg ag,← Int.natCast_ediv]
  exact uT (nI b j)
theorem Pq (bs:List UInt8) (h:Nat):jU .eql (((bAt bs (h/8)).toNat/2 ^ (h%8)%2:Nat):Int) 1=iF bs h:=by
  unfold iF jU
  generalize (bAt bs (h/8)).toNat/2 ^ (h%8)%2=z
  by_cases e:z=1
  · subst e; rfl
  · rw [show (z == 1)=false by simpa using e]
    exact decide_eq_false ag
theorem Pv (bs:List UInt8) (h:Nat):jU .eql (jo bs h:Int) 0 = !iF bs h:=by
  unfold jo jU
  cases iF bs h <;> rfl
theorem Prf.formed_ones {p:Prf} (h:p.formed=true):dh p.bs 256=p.ss.length:=by
  unfold Prf.formed at h
  simp only [Bool.and_eq_true,decide_eq_true_eq] at h
  exact h.1
theorem Prf.dig_at {p:Prf} (hf:p.formed=true) {h:Nat} (b:iF p.bs h=true) (hh:h<256):dh p.bs h<p.ss.length∧p.ss[dh p.bs h]? = some (p.dig h):=by
  have h1:=LU b hh
  rw [p.formed_ones hf] at h1
  refine ⟨h1,?_⟩
  unfold Prf.dig
  rw [List.getElem?_eq_getElem h1]; rfl
theorem Prf.dig_length {p:Prf} (hp:p.OK) (hf:p.formed=true) {h:Nat} (b:iF p.bs h=true) (hh:h<256):(p.dig h).length=32 :=
  hp.ss _ (List.mem_of_getElem? (p.dig_at hf b hh).2)
theorem Prf.side_length {p:Prf} (hp:p.OK) (hf:p.formed=true) (width:Int) {h:Nat} (hh:h<256):(p.side width h).length=32:=by
  unfold Prf.side
  split
  · rename_i b; exact p.dig_length hp hf b hh
  · exact bZ _ _
def Prf.row (p:Prf) (width:Int) (n i:Nat):List UInt8:=if i<n then p.side width i else aK width i
theorem Prf.row0 (p:Prf) (width:Int):p.row width 0=aK width:=by funext i; unfold Prf.row; rw [if_neg (Nat.not_lt_zero _)]
theorem Prf.row_no {p:Prf} {width:Int} {h:Nat} (b:iF p.bs h=false):p.row width (h+1)=p.row width h:=by
  funext i
  unfold Prf.row
  by_cases e:i=h
  · subst e; rw [if_pos ag,if_neg ag]; unfold Prf.side; rw [b]; rfl
  · by_cases e2:i<h
    · rw [if_pos ag,if_pos e2]
    · rw [if_neg ag,if_neg e2]
theorem Prf.row_at (p:Prf) (width:Int) (h:Nat):p.row width h h=aK width h:=by unfold Prf.row; rw [if_neg ag]
theorem Prf.row_length {p:Prf} (hp:p.OK) (hf:p.formed=true) (width:Int) {n:Nat} (hn:n≤256) (i:Nat):(p.row width n i).length=32:=by
  unfold Prf.row
  split
  · exact p.side_length hp hf width ag
  · exact bZ _ _
theorem kY (f:Nat→List UInt8) (n:Nat):dM f n=cel dc ((List.range n).map f):=by
  unfold dM cel
  rw [List.map_map,List.flatMap_def]; rfl
theorem pY {f g:Nat→List UInt8} {n h:Nat} (hf:∀ i,i<n→(f i).length=32) (hh:h<n) (hd:(g h).length=32) (hg:∀ i,i≠h→g i=f i) (Z:List Value):splice (dM f n++Z) (h*32) (dc (g h))=dM g n++Z:=by
  have hl:(dM f n).length=n*32:=by rw [kY,nH (sz:=32) (fun x hx=>by obtain ⟨i,hi,rfl⟩:=List.mem_map.1 hx; rw [aj]; exact hf i (List.mem_range.1 hi)),List.length_map,List.length_range]
  have e1:splice (dM f n) (h*32) (dc (g h))=dM g n:=by
    rw [kY,kY,Qk (sz:=32) (fun x hx=>by obtain ⟨i,hi,rfl⟩:=List.mem_map.1 hx; rw [aj]; exact hf i (List.mem_range.1 hi)) (by rw [List.length_map,List.length_range]; exact hh) (by rw [aj]; exact hd)]
    congr 1
    apply List.ext_getElem?
    intro i
    rw [List.getElem?_set,List.length_map,List.length_range]
    by_cases e:h=i
    · subst e
      rw [if_pos rfl,if_pos hh,List.getElem?_map,List.getElem?_range hh]; rfl
    · rw [if_neg e]
      by_cases hi:i<n
      · rw [List.getElem?_map,List.getElem?_map,List.getElem?_range hi]
        simp only [Option.map_some,hg i (fun x=>e x.symm)]
      · rw [List.getElem?_eq_none (by rw [List.length_map,List.length_range]; omega),List.getElem?_eq_none (by rw [List.length_map,List.length_range]; omega)]
  rw [← e1]
  unfold splice
  rw [aj,hd,List.take_append_of_le_length ag,List.drop_append_of_le_length ag]
  simp only [List.append_assoc]
theorem Prf.row_put {p:Prf} (hp:p.OK) (hf:p.formed=true) (width:Int) {h:Nat} (b:iF p.bs h=true) (hh:h<256) (n:Nat) (hn:h<n) (Z:List Value):splice (dM (p.row width h) n++Z) (h*32) (dc (p.dig h))=dM (p.row width (h+1)) n++Z:=by
  have e:p.row width (h+1) h=p.dig h:=by unfold Prf.row; rw [if_pos ag]; unfold Prf.side; rw [b]; rfl
  have h1:=pY (f:=p.row width h) (g:=p.row width (h+1)) (n:=n) (h:=h) (fun i _=>p.row_length hp hf width ag i) hn (by rw [e]; exact p.dig_length hp hf b hh) (fun i hi=>by
    unfold Prf.row
    by_cases e2:i<h
    · rw [if_pos ag,if_pos e2]
    · rw [if_neg ag,if_neg e2]) Z
  rwa [e] at h1
theorem Prf.bad_stop {p:Prf} {width:Int} {h:Nat} (hb:p.badAt width h=true) (hh:h<256):p.bad width 256=true:=by
  have h1:∀ k,h<k→p.bad width k=true:=by
    intro k hk
    induction k with
    | zero=>omega
    | succ k ih =>
      show (p.bad width k || p.badAt width k)=true
      by_cases e:h=k
      · subst e; rw [hb,Bool.or_true]
      · rw [ih ag]; rfl
  exact h1 256 hh
theorem GN {D:List UInt8} (hD:D.length=32) (width:Int):gZ D width=D↔∀ b,kept width≤b→b<32→bAt D b=0:=by
  have hk:=rY width
  constructor
  · intro h b h1 h2
    rw [← h]
    unfold gZ bAt
    rw [List.getElem?_append_right (by rw [List.length_take,hD]; omega),List.length_take,hD,Nat.min_eq_left hk,List.getElem?_replicate,if_pos ag]
    rfl
  · intro h
    apply List.ext_getElem?
    intro i
    unfold gZ
    by_cases h1:i<kept width
    · rw [List.getElem?_append_left (by rw [List.length_take,hD]; omega),List.getElem?_take,if_pos h1]
    · rw [List.getElem?_append_right (by rw [List.length_take,hD]; omega),List.length_take,hD,Nat.min_eq_left hk,List.getElem?_replicate]
      by_cases h2:i<32
      · have h3:=h i ag h2
        unfold bAt at h3
        rw [if_pos ag]
        rw [List.getElem?_eq_getElem ag] at h3 ⊢
        rw [← h3]; rfl
      · rw [if_neg ag,List.getElem?_eq_none ag]
end Go.Proofs.YtpomngkcfbnjoaaGreatDoor
