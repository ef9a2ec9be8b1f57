/- Texts that belong together, one behind the other. -/
import Derived.Test.YtepbmdlgdaedpaaGreatDoorSha
import Derived.Test.YtepbmdlgdaedpaaGreatDoorMem
import Derived.Laws.MakeOwn
import Derived.Deep.AppendSrc
import Derived.Laws.IdiomStrings
import Derived.Deep.DeepAppendWide
namespace Go.Dk
open Go Go.RowKit
theorem su {l:List UInt8} {i:Nat} (h:i<l.length):l[i]? = some (bAt l i):=by simp [bAt,h]
theorem Gs {l:List UInt8} {i k:Nat} (h:i<k):bAt (l.take k) i=bAt l i:=by simp [bAt,h]
theorem Gt {l:List UInt8} {i k:Nat}:bAt (l.drop k) i=bAt l (k+i):=by simp [bAt,List.getElem?_drop]
theorem rQ {l:List UInt8} {i:Nat} (h:i<l.length):(dc l)[i]? = some (.int .u8 (bAt l i).toNat):=by simp [dc,bAt,h]
theorem iO (a b:List UInt8):dc (a++b)=dc a++dc b:=by simp [dc]
theorem aW (a:List UInt8):(dc a).length=a.length:=by simp [dc]
theorem dc_take (a:List UInt8) (k:Nat):(dc a).take k=dc (a.take k):=by simp [dc]
theorem IP (a:List UInt8) (k:Nat):(dc a).drop k=dc (a.drop k):=by simp [dc]
theorem pq (D:List UInt8):∀ v∈dc D,v.oneCell'=true:=by
  intro v hv
  simp only [dc,List.mem_map] at hv
  obtain ⟨b,_,rfl⟩:=hv
  rfl
def Bts (w:World) (A:Option Addr) (l:List UInt8):Prop :=
  l≠[]→∃ b o,A=some ⟨b,o,none⟩∧b<w.heap.size∧∀ i,i<l.length→w.cell? ⟨b,o+i,none⟩=some (.int .u8 (bAt l i).toNat)
def Off (A:Option Addr) (g:Nat):Prop:=∀ ad,A=some ad→ad.block≠g
section
variable {w0 w w':World} {L:List Row} {A:Option Addr} {l:List UInt8} {g:Nat}
theorem Bts.nil (w:World) (A:Option Addr):Bts w A []:=fun h=>absurd rfl h
theorem Bts.drew (h:Bts w A l) (n:Nat):Bts (w.drewN n) A l:=h
theorem Bts.at_ (h:Bts w0 A l) (hA:At w0 L w) (hn:∀ r∈L,Off A r.1):Bts w A l:=fun hne=>by
  obtain ⟨b,o,rfl,hb,hc⟩:=h hne
  refine ⟨b,o,rfl,Nat.lt_of_lt_of_le hb hA.size,fun i hi=>?_⟩
  rw [hA.old hb (fun hm=>by
    obtain ⟨r,hr,he⟩:=List.mem_map.1 hm
    exact hn r hr _ O he.symm)]
  exact hc i hi
theorem Bts.then0 (h:Bts w A l) (hA:At w [] w'):Bts w' A l:=h.at_ hA (fun _ hr=>by cases hr)
theorem Off.sub {k cap size:Nat} (h:Off A g):Off (sub A k cap size) g:=by
  intro ad he
  unfold Dk.sub at he
  split at he
  · exact h ad he
  · cases A with
    | none=>cases he
    | some a =>
      simp only [Option.map_some,Option.some.injEq] at he
      subst he
      have:=h a rfl
      unfold Addr.add
      split <;> exact this
theorem Bts.drop (h:Bts w A l) (k:Nat) {cap:Nat} (hc:l.length≤cap):Bts w (sub A k cap 1) (l.drop k):=fun hne=>by
  have hk:k<l.length:=by
    rcases Nat.lt_or_ge k l.length with h1 | h1
    · exact h1
    · exact absurd (List.drop_eq_nil_iff.2 h1) hne
  obtain ⟨b,o,rfl,hb,hcell⟩:=h (fun e=>by rw [e] at hk; exact absurd hk (Nat.not_lt_zero _))
  refine ⟨b,o+k,sub_lt ag,hb,fun i hi=>?_⟩
  rw [List.length_drop] at hi
  have:=hcell (k+i) ag
  rw [Gt,← this,Nat.add_assoc]
theorem Bts.take (h:Bts w A l) (k:Nat):Bts w A (l.take k):=fun hne=>by
  obtain ⟨b,o,rfl,hb,hcell⟩:=h (fun e=>hne (by rw [e]; simp))
  refine ⟨b,o,rfl,hb,fun i hi=>?_⟩
  rw [List.length_take] at hi
  rw [Gs ag]
  exact hcell i ag
theorem Bts.row (hA:At w0 L w) {k:Nat} {t:TypeId} {cs:List Value} (hk:L[k]? = some (g,t,cs)) {o:Nat} (hc:(cs.drop o).take l.length=dc l):Bts w (some ⟨g,o,none⟩) l:=fun _=>by
  refine ⟨g,o,rfl,hA.lt hk,fun i hi=>?_⟩
  rw [hA.cell hk]
  have h1:((cs.drop o).take l.length)[i]? = cs[o+i]? := by rw [List.getElem?_take,if_pos hi,List.getElem?_drop]
  rw [← h1,hc,rQ hi]
end
section
variable {P:Program} {ops:Array Oper} {Q:Exit→Act→World→Prop} {a:Act} {w0 w:World} {L:List Row} {rest:List Oper} {o:Oper}
theorem qM {x y:Operand} {tx ty e:TypeId} (ho:o.op= .call { callee:= .builtin .copy,args := #[x,y],argTypes := #[tx,ty] }) (hA:At w0 L w)
    (hu:P.underlying tx=some (.slice e)) (hs:(P.info? e).map (·.size)=some 1) {D A:Option Addr} {dLen dc' sLen sc:Nat} (hx:a.eval x= .slice D dLen dc') (hy:a.eval y= .slice A sLen sc)
    {l:List UInt8} (hl:l.length=Nat.min sLen dLen) (hr:Bts w A l) {g off k:Nat} {te:TypeId} {cs:List Value} (hk:L[k]? = some (g,te,cs)) (hD:0<l.length→D=some ⟨g,off,none⟩) (hfit:off+l.length≤cs.length) :
    ∃ w',(execOp a.eval o).run P w= .ok (.value (.int .i64 (l.length:Nat))) w'∧At w0 (L.set k (g,te,splice cs off (dc l))) w':=by
  have hrow:=hA.row hk
  have hsz:=run_sizeOf (w:=w) hs
  by_cases hne:l=[]
  · subst hne
    have hsame:splice cs off (dc [])=cs:=by simp [splice,dc]
    have hput:=hA.put hk (splice cs off (dc []))
    rw [hsame] at hput
    have hself:=setRow_self w g _ te (0,0) hrow
    rw [hself] at hput
    refine ⟨w,?_,by rw [hsame]; exact hput⟩
    have h0:Nat.min sLen dLen=0:=hl.symm
    unfold execOp
    cases A <;> cases D <;>
    simp [ho,hx,hy,resolve,invoke,builtin,Builtin.copy_,run_underlying hu w,Builtin.lenOf,Builtin.firstCells,hsz,h0,storeCells,loadCells,loadCellsFrom,goInt]
  · obtain ⟨b,o',rfl,hb,hcell⟩:=hr hne
    have hpos:0<l.length:=List.length_pos_iff.2 hne
    obtain rfl:=hD hpos
    refine ⟨_,?_,hA.put hk (splice cs off (dc l))⟩
    have hl':=run_loadCells_list (P:=P) w ⟨b,o',none⟩ (dc l) (fun j v hj=>by
      rw [Addr.add_mid]
      have hjl:j<l.length:=by
        have:=(List.getElem?_eq_some_iff.1 hj).1
        rwa [aW] at this
      rw [rQ hjl] at hj
      rw [hcell j hjl,← hj])
    have hst:=run_storeCells_at P g off te (dc l) 0 _ w hrow (by rw [aW]; simpa using hfit) (pq l)
    rw [aW] at hl'
    unfold execOp
    simp only [ho,hx,hy,resolve,invoke,builtin,Builtin.copy_,Builtin.lenOf,Builtin.firstCells,List.map_toArray,List.map_cons,List.map_nil,Sem.run_bind,Sem.run_pure,Result.andThen_ok,run_underlying hu w,List.getElem?_toArray,List.getElem?_cons_zero,
      List.getElem?_cons_succ,hsz,← hl,Nat.mul_one,hl',hst,goInt]
    simp [splice]
theorem GN {K:Act→World→Prop} {x y:Operand} {tx ty e:TypeId} (ho:o.op= .call { callee:= .builtin .copy,args := #[x,y],argTypes := #[tx,ty] }) (hA:At w0 L w)
    (hu:P.underlying tx=some (.slice e)) (hs:(P.info? e).map (·.size)=some 1) {D A:Option Addr} {dLen dc' sLen sc:Nat} (hx:a.eval x= .slice D dLen dc') (hy:a.eval y= .slice A sLen sc)
    {l:List UInt8} (hl:l.length=Nat.min sLen dLen) (hr:Bts w A l) {g off:Nat} (k:Nat) {te:TypeId} {cs:List Value} (hk:L[k]? = some (g,te,cs)) (hD:0<l.length→D=some ⟨g,off,none⟩) (hfit:off+l.length≤cs.length)
    (h:∀ w',At w0 (L.set k (g,te,splice cs off (dc l))) w'→K (a.put o.dst (.int .i64 (l.length:Nat))) w'):o.wp P a w K Q:=by
  obtain ⟨w',h1,h2⟩:=qM ho hA hu hs hx hy hl hr hk hD hfit
  unfold Oper.wp
  rw [h1]
  exact h w' h2
theorem uI {t e:TypeId} {x:Operand} {lo hi:Option Operand} (ho:o.op= .slice t x lo hi none) {n size:Nat} (hu:P.underlying t=some (.array n e))
    (hs:(P.info? e).map (·.size)=some size) {ad:Addr} (hx:a.eval x= .pointer (some ad)) (l h:Nat) (hlo:jy (lo.map a.eval) 0 l) (hhi:jy (hi.map a.eval) n h) (h1:l≤h) (h2:h≤n)
    {v:Value} (hv:Value.slice (sub (some ad) l n size) (h-l) (n-l)=v):(execOp a.eval o).run P w= .ok (.value v) w:=by
  subst hv
  unfold execOp
  simp only [ho,hx,Instr.sliceAt,Instr.sureAddr,Sem.run_bind,Sem.run_pure,Result.andThen_ok,run_underlying hu w,kX false n n hlo hhi h1 h2,run_sizeOf hs,Option.map_none]
  have he:some (if n=l then ad else ad.add (l*size))=sub (some ad) l n size:=by unfold sub; split <;> rfl
  rw [he]
theorem xk {t e:TypeId} {x:Operand} {lo hi:Option Operand} (ho:o.op= .slice t x lo hi none) {size:Nat} (hu:P.underlying t=some (.slice e))
    (hs:(P.info? e).map (·.size)=some size) {A:Option Addr} {len cap:Nat} (hx:a.eval x= .slice A len cap) (l h:Nat) (hlo:jy (lo.map a.eval) 0 l) (hhi:jy (hi.map a.eval) len h) (h1:l≤h) (h2:h≤cap)
    {v:Value} (hv:Value.slice (sub A l cap size) (h-l) (cap-l)=v):(execOp a.eval o).run P w= .ok (.value v) w:=by
  subst hv
  unfold execOp
  simp only [ho,hx,Instr.sliceAt,Instr.slice,Sem.run_bind,Sem.run_pure,Result.andThen_ok,run_underlying hu w,kX true len cap hlo hhi h1 h2,run_sizeOf hs,Option.map_none]
  rfl
end
end Go.Dk
namespace Go.Dk
open Go Go.RowKit
def lX (P:Program) (e:TypeId):Prop:=(P.info? e).map (fun i=>(i.zero,i.size,i.bytes))=some (some (.int .u8 0),1,1)
theorem tq {P:Program} {e:TypeId} (h:lX P e):∃ i,P.info? e=some i∧i.zero=some (.int .u8 0)∧i.size=1∧i.bytes=1:=by
  unfold lX at h
  cases hi:P.info? e with
  | none=>simp [hi] at h
  | some i =>
    rw [hi] at h
    simp only [Option.map_some,Option.some.injEq,Prod.mk.injEq] at h
    exact ⟨i,rfl,h.1,h.2.1,h.2.2⟩
section
variable {P:Program} {ops:Array Oper} {Q:Exit→Act→World→Prop} {a:Act} {w0 w:World} {L:List Row} {rest:List Oper} {o:Oper}
theorem qc {t t' e:TypeId} {x:Operand} (ho:o.op= .convert t t' x) (hu:P.underlying t=some (.slice e)) (he:P.underlying e=some (.int .u8)) (hd:P.underlying t'=some .string)
    {A:Option Addr} {c n:Nat} {l:List UInt8} (hx:a.eval x= .slice A n c) (hn:n=l.length) (hne:l≠[]) (hr:Bts w A l):(execOp a.eval o).run P w= .ok (.value (.string ⟨l.toArray⟩)) w:=by
  subst hn
  obtain ⟨b,o',rfl,hb,hc⟩:=hr hne
  have h:=run_convert_bytes_back (P:=P) w t t' e ⟨b,o',none⟩ c l hu he hd (fun j hj=>by rw [Addr.add_mid,hc j hj]; simp [bAt,hj])
  unfold execOp
  simp only [ho,hx,Sem.run_bind,h,Result.andThen_ok,Sem.run_pure]
theorem Dw {K:Act→World→Prop} {t:TypeId} {n:Nat} {ps:Array (Nat × Operand)} (ho:o.op= .buildSlice t n ps) (hA:At w0 L w) {e:TypeId} {cells:Array Value}
    (hr:(Instr.buildSlice t n (ps.map fun (i,x)=>(i,a.eval x))).run P w= .ok (.slice (some ⟨w.heap.size,0,none⟩) n n) (w.alloc (.cells cells e)))
    (h:∀ g w',w.heap.size≤g→At w0 ((g,e,cells.toList)::L) w'→K (a.put o.dst (.slice (some ⟨g,0,none⟩) n n)) w'):o.wp P a w K Q:=by
  have h1:=h w.heap.size (w.alloc (.cells cells e)) (Nv _) (hA.alloc _ _)
  unfold Oper.wp execOp
  simp only [ho,Sem.run_bind,hr,Result.andThen_ok,Sem.run_pure]
  exact h1
theorem JG {K:Act→World→Prop} {t:TypeId} {x:Operand} (ho:o.op= .buildSlice t 1 #[(0,x)]) (hA:At w0 L w) {v:Value} (hx:a.eval x=v) {e:TypeId} {cells:Array Value}
    (hr:(Instr.buildSlice t 1 #[(0,v)]).run P w= .ok (.slice (some ⟨w.heap.size,0,none⟩) 1 1) (w.alloc (.cells cells e)))
    (h:∀ g w',w.heap.size≤g→At w0 ((g,e,cells.toList)::L) w'→K (a.put o.dst (.slice (some ⟨g,0,none⟩) 1 1)) w'):o.wp P a w K Q:=by
  subst hx
  exact Dw ho hA (by simpa using hr) h
end
end Go.Dk
namespace Go.Dk
open Go Go.RowKit
theorem At.perm {w0 w:World} {L L':List Row} (h:At w0 L w) (hp:L.Perm L'):At w0 L' w :=
  ⟨h.os,h.tape,h.output,h.size,fun r hr=>h.rows r (hp.mem_iff.2 hr),(hp.map (·.1)).nodup_iff.1 h.dist,
   fun k hk hn=>h.frame k hk (fun hm=>hn ((hp.map (·.1)).mem_iff.1 hm))⟩
def gV (P:Program) (e:TypeId) (size bytes:Nat):Prop:=∃ i z,P.info? e=some i∧i.zero=some z∧i.size=size∧i.bytes=bytes∧z.cells.size=size
theorem sS {P:Program} {e:TypeId} (h:lX P e):gV P e 1 1:=by
  obtain ⟨i,h1,h2,h3,h4⟩:=tq h
  exact ⟨i,_,h1,h2,h3,h4,rfl⟩
theorem iC {P:Program} {e:TypeId} {size bytes:Nat} {z:Value} (h:(P.info? e).map (fun i=>(i.zero,i.size,i.bytes))=some (some z,size,bytes)) (hz:z.cells.size=size):gV P e size bytes:=by
  cases hi:P.info? e with
  | none=>simp [hi] at h
  | some i =>
    rw [hi] at h
    simp only [Option.map_some,Option.some.injEq,Prod.mk.injEq] at h
    exact ⟨i,z,hi,h.1,h.2.1,h.2.2,hz⟩
def Own (w0:World) (e:TypeId) (size:Nat) (X:List Row) (v:Value) (n:Nat) (W:List Value):Prop :=
  W.length=n*size∧((v= .slice none 0 0∧n=0∧X=[])∨∃ g c Z,v= .slice (some ⟨g,0,none⟩) n c∧n≤c∧w0.heap.size≤g∧Z.length=(c-n)*size∧X=[(g,e,W++Z)])
theorem Own.nil (w0:World) (e:TypeId) (size:Nat):Own w0 e size [] (.slice none 0 0) 0 []:=⟨by simp,.inl ⟨rfl,rfl,rfl⟩⟩
section
variable {w0 w:World} {R X:List Row} {e:TypeId} {size n:Nat} {v:Value} {W:List Value}
theorem Own.slice (h:Own w0 e size X v n W):∃ A c,v= .slice A n c∧n≤c:=by
  rcases h.2 with ⟨h1,h2,_⟩ | ⟨g,c,_,h1,h2,_⟩
  · subst h2; exact ⟨_,_,h1,Nv _⟩
  · exact ⟨_,_,h1,h2⟩
theorem Own.new (h:Own w0 e size X v n W):∀ r∈X,w0.heap.size≤r.1:=by
  rcases h.2 with ⟨_,_,h3⟩ | ⟨g,c,Z,_,_,h3,_,h5⟩
  · subst h3; intro r hr; cases hr
  · subst h5; intro r hr; simp only [List.mem_singleton] at hr; subst hr; exact h3
theorem Own.bts {l:List UInt8} (h:Own w0 e 1 X v n (dc l)) (hA:At w0 (R++X) w):∃ A c,v= .slice A n c∧n≤c∧n=l.length∧Bts w A l∧∀ ad,A=some ad→ad.block<w.heap.size∧w0.heap.size≤ad.block∧ad.block∈X.map (·.1):=by
  have hn:n=l.length:=by have:=h.1; rw [aW] at this; omega
  rcases h.2 with ⟨h1,h2,_⟩ | ⟨g,c,Z,h1,h2,h3,_,h5⟩
  · have:l=[]:=List.length_eq_zero_iff.1 ag
    subst this
    subst h2
    exact ⟨_,_,h1,Nv _,hn,Bts.nil _ _,fun ad he=>by cases he⟩
  · subst h5
    have hk:(R++[(g,e,dc l++Z)])[R.length]? = some (g,e,dc l++Z):=by simp
    refine ⟨_,_,h1,h2,hn,Bts.row hA hk (by rw [List.drop_zero,List.take_append_of_le_length (by rw [aW]; exact Nv _),Ny (by rw [aW]; exact Nv _)]),fun ad he=>?_⟩
    cases he
    exact ⟨hA.lt hk,h3,by simp⟩
theorem BF (zs:Array Value) (n:Nat):(Builtin.zeroCells zs n).toList.length=n*zs.size:=by simp [Builtin.zeroCells]
end
section
variable {P:Program} {ops:Array Oper} {Q:Exit→Act→World→Prop} {a:Act} {w0 w:World} {R X:List Row} {rest:List Oper} {o:Oper}
theorem Bts.src {A:Option Addr} {l:List UInt8} {c:Nat} {tx e':TypeId} (hux:P.underlying tx=some (.slice e')) (hr:Bts w A l):Src P 1 tx (.slice A l.length c) l.length (dc l) w:=by
  by_cases hl:l=[]
  · subst hl
    cases A with
    | none=>exact Src.ofNil w hux c
    | some ad=>exact Src.ofSlice w hux ad 0 c [] (by simp) (fun j u hj=>by simp at hj) (fun u hu=>by cases hu)
  · obtain ⟨b,o',rfl,hbl,hcell⟩:=hr hl
    exact Src.ofSlice w hux ⟨b,o',none⟩ l.length c (dc l) (by rw [aW,Nat.mul_one])
      (fun j u hj=>by
        have hjl:j<l.length:=by have:=(List.getElem?_eq_some_iff.1 hj).1; rwa [aW] at this
        rw [rQ hjl] at hj
        rw [Addr.add_mid,hcell j hjl,← hj]) (pq l)
theorem At.setCells {L:List Row} {k g:Nat} {t:TypeId} {cs new:List Value} {off:Nat} (h:At w0 L w) (hk:L[k]? = some (g,t,cs)) (hl:off+new.length≤cs.length) :
    At w0 (L.set k (g,t,splice cs off new)) (w.setCells g off new):=by
  induction new generalizing off w L cs with
  | nil =>
    have e1:splice cs off []=cs:=by simp [splice]
    have e2:L.set k (g,t,cs)=L:=by
      apply List.ext_getElem?
      intro i
      rw [List.getElem?_set]
      split
      · rename_i e
        subst e
        obtain ⟨hkl,hv⟩:=List.getElem?_eq_some_iff.1 hk
        simp [hkl,hv]
      · rfl
    rw [e1,e2]
    exact h
  | cons v rest ih =>
    have hkl:k<L.length:=(List.getElem?_eq_some_iff.1 hk).1
    simp only [List.length_cons] at hl
    have h1:=h.put hk (cs.set off v)
    have hs:w.setCell ⟨g,off,none⟩ v=w.setRow g (cs.set off v).toArray:=by
      rw [setCell_eq_setRow w g off _ t (0,0) v (h.row hk)]
      simp
    rw [← hs] at h1
    have h2:=ih (off:=off+1) (cs:=cs.set off v) h1 (by simp [hkl]) (by simp; omega)
    have e1:splice (cs.set off v) (off+1) rest=splice cs off (v::rest):=by
      unfold splice
      have hoff:off<cs.length:=by omega
      rw [List.take_set,List.take_succ_eq_append_getElem hoff,List.set_append,if_neg (by rw [List.length_take]; omega),List.length_take,show off-min off cs.length=0 by omega,List.drop_set_of_lt ag]
      simp [Nat.add_assoc,Nat.add_comm 1]
    rw [e1,List.set_set] at h2
    exact h2
end
end Go.Dk
