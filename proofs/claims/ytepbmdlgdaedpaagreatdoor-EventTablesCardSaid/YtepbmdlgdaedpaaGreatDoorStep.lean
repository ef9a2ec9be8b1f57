/- Texts that belong together, one behind the other. -/
import Derived.Test.YtepbmdlgdaedpaaGreatDoorSha
import Derived.Test.YtepbmdlgdaedpaaGreatDoorMem
import Derived.Laws.MakeOwn
import Derived.Deep.AppendSrc
import Derived.Laws.IdiomStrings
namespace Go.Dk
open Go Go.RowKit
theorem qx {l:List UInt8} {i:Nat} (h:i<l.length):l[i]? = some (bAt l i):=by simp [bAt,h]
theorem Ac {l:List UInt8} {i k:Nat} (h:i<k):bAt (l.take k) i=bAt l i:=by simp [bAt,h]
theorem Ad {l:List UInt8} {i k:Nat}:bAt (l.drop k) i=bAt l (k+i):=by simp [bAt,List.getElem?_drop]
theorem ui {l:List UInt8} {i:Nat} (h:i<l.length):(dc l)[i]? = some (.int .u8 (bAt l i).toNat):=by simp [dc,bAt,h]
theorem bV (a b:List UInt8):dc (a++b)=dc a++dc b:=by simp [dc]
theorem aI (a:List UInt8):(dc a).length=a.length:=by simp [dc]
theorem dc_take (a:List UInt8) (k:Nat):(dc a).take k=dc (a.take k):=by simp [dc]
theorem Dt (a:List UInt8) (k:Nat):(dc a).drop k=dc (a.drop k):=by simp [dc]
theorem iw (D:List UInt8):∀ v∈dc D,v.oneCell'=true:=by
  intro v hv
  simp only [dc,List.mem_map] at hv
  obtain ⟨b,_,rfl⟩:=hv
  rfl
def Bts (w:World) (A:Option Addr) (l:List UInt8):Prop :=
  l≠[]→∃ b o,A=some ⟨b,o,none⟩∧b<w.heap.size∧∀ i,i<l.length→w.cell? ⟨b,o+i,none⟩=some (.int .u8 (bAt l i).toNat)
def Off (A:Option Addr) (g:Nat):Prop:=∀ ad,A=some ad→ad.block≠g
section
variable {w0 w w':World} {L:List Row} {A:Option Addr} {l:List UInt8} {g:Nat}
theorem Bts.nil (w:World) (A:Option Addr):Bts w A []:=fun h=>absurd rfl h
theorem Bts.drew (h:Bts w A l) (n:Nat):Bts (w.drewN n) A l:=h
theorem Bts.at_ (h:Bts w0 A l) (hA:At w0 L w) (hn:∀ r∈L,Off A r.1):Bts w A l:=fun hne=>by
  obtain ⟨b,o,rfl,hb,hc⟩:=h hne
  refine ⟨b,o,rfl,Nat.lt_of_lt_of_le hb hA.size,fun i hi=>?_⟩
  rw [hA.old hb (fun hm=>by
    obtain ⟨r,hr,he⟩:=List.mem_map.1 hm
    exact hn r hr _ O he.symm)]
  exact hc i hi
theorem Bts.then0 (h:Bts w A l) (hA:At w [] w'):Bts w' A l:=h.at_ hA (fun _ hr=>by cases hr)
theorem Off.sub {k cap size:Nat} (h:Off A g):Off (sub A k cap size) g:=by
  intro ad he
  unfold Dk.sub at he
  split at he
  · exact h ad he
  · cases A with
    | none=>cases he
    | some a =>
      simp only [Option.map_some,Option.some.injEq] at he
      subst he
      have:=h a rfl
      unfold Addr.add
      split <;> exact this
theorem Bts.drop (h:Bts w A l) (k:Nat) {cap:Nat} (hc:l.length≤cap):Bts w (sub A k cap 1) (l.drop k):=fun hne=>by
  have hk:k<l.length:=by
    rcases Nat.lt_or_ge k l.length with h1 | h1
    · exact h1
    · exact absurd (List.drop_eq_nil_iff.2 h1) hne
  obtain ⟨b,o,rfl,hb,hcell⟩:=h (fun e=>by rw [e] at hk; exact absurd hk (Nat.not_lt_zero _))
  refine ⟨b,o+k,sub_lt ag,hb,fun i hi=>?_⟩
  rw [List.length_drop] at hi
  have:=hcell (k+i) ag
  rw [Ad,← this,Nat.add_assoc]
theorem Bts.take (h:Bts w A l) (k:Nat):Bts w A (l.take k):=fun hne=>by
  obtain ⟨b,o,rfl,hb,hcell⟩:=h (fun e=>hne (by rw [e]; simp))
  refine ⟨b,o,rfl,hb,fun i hi=>?_⟩
  rw [List.length_take] at hi
  rw [Ac ag]
  exact hcell i ag
theorem Bts.row (hA:At w0 L w) {k:Nat} {t:TypeId} {cs:List Value} (hk:L[k]? = some (g,t,cs)) {o:Nat} (hc:(cs.drop o).take l.length=dc l):Bts w (some ⟨g,o,none⟩) l:=fun _=>by
  refine ⟨g,o,rfl,hA.lt hk,fun i hi=>?_⟩
  rw [hA.cell hk]
  have h1:((cs.drop o).take l.length)[i]? = cs[o+i]? := by rw [List.getElem?_take,if_pos hi,List.getElem?_drop]
  rw [← h1,hc,ui hi]
end
section
variable {P:Program} {ops:Array Oper} {Q:Exit→Act→World→Prop} {a:Act} {w0 w:World} {L:List Row} {rest:List Oper} {o:Oper}
theorem sW {x y:Operand} {tx ty e:TypeId} (ho:o.op= .call { callee:= .builtin .copy,args := #[x,y],argTypes := #[tx,ty] }) (hA:At w0 L w)
    (hu:P.underlying tx=some (.slice e)) (hs:(P.info? e).map (·.size)=some 1) {D A:Option Addr} {dLen dc' sLen sc:Nat} (hx:a.eval x= .slice D dLen dc') (hy:a.eval y= .slice A sLen sc)
    {l:List UInt8} (hl:l.length=Nat.min sLen dLen) (hr:Bts w A l) {g off k:Nat} {te:TypeId} {cs:List Value} (hk:L[k]? = some (g,te,cs)) (hD:0<l.length→D=some ⟨g,off,none⟩) (hfit:off+l.length≤cs.length) :
    ∃ w',(execOp a.eval o).run P w= .ok (.value (.int .i64 (l.length:Nat))) w'∧At w0 (L.set k (g,te,splice cs off (dc l))) w':=by
  have hrow:=hA.row hk
  have hsz:=run_sizeOf (w:=w) hs
  by_cases hne:l=[]
  · subst hne
    have hsame:splice cs off (dc [])=cs:=by simp [splice,dc]
    have hput:=hA.put hk (splice cs off (dc []))
    rw [hsame] at hput
    have hself:=setRow_self w g _ te (0,0) hrow
    rw [hself] at hput
    refine ⟨w,?_,by rw [hsame]; exact hput⟩
    have h0:Nat.min sLen dLen=0:=hl.symm
    unfold execOp
    cases A <;> cases D <;>
    simp [ho,hx,hy,resolve,invoke,builtin,Builtin.copy_,run_underlying hu w,Builtin.lenOf,Builtin.firstCells,hsz,h0,storeCells,loadCells,loadCellsFrom,goInt]
  · obtain ⟨b,o',rfl,hb,hcell⟩:=hr hne
    have hpos:0<l.length:=List.length_pos_iff.2 hne
    obtain rfl:=hD hpos
    refine ⟨_,?_,hA.put hk (splice cs off (dc l))⟩
    have hl':=run_loadCells_list (P:=P) w ⟨b,o',none⟩ (dc l) (fun j v hj=>by
      rw [Addr.add_mid]
      have hjl:j<l.length:=by
        have:=(List.getElem?_eq_some_iff.1 hj).1
        rwa [aI] at this
      rw [ui hjl] at hj
      rw [hcell j hjl,← hj])
    have hst:=run_storeCells_at P g off te (dc l) 0 _ w hrow (by rw [aI]; simpa using hfit) (iw l)
    rw [aI] at hl'
    unfold execOp
    simp only [ho,hx,hy,resolve,invoke,builtin,Builtin.copy_,Builtin.lenOf,Builtin.firstCells,List.map_toArray,List.map_cons,List.map_nil,Sem.run_bind,Sem.run_pure,Result.andThen_ok,run_underlying hu w,List.getElem?_toArray,List.getElem?_cons_zero,
      List.getElem?_cons_succ,hsz,← hl,Nat.mul_one,hl',hst,goInt]
    simp [splice]
theorem oD {K:Act→World→Prop} {x y:Operand} {tx ty e:TypeId} (ho:o.op= .call { callee:= .builtin .copy,args := #[x,y],argTypes := #[tx,ty] }) (hA:At w0 L w)
    (hu:P.underlying tx=some (.slice e)) (hs:(P.info? e).map (·.size)=some 1) {D A:Option Addr} {dLen dc' sLen sc:Nat} (hx:a.eval x= .slice D dLen dc') (hy:a.eval y= .slice A sLen sc)
    {l:List UInt8} (hl:l.length=Nat.min sLen dLen) (hr:Bts w A l) {g off:Nat} (k:Nat) {te:TypeId} {cs:List Value} (hk:L[k]? = some (g,te,cs)) (hD:0<l.length→D=some ⟨g,off,none⟩) (hfit:off+l.length≤cs.length)
    (h:∀ w',At w0 (L.set k (g,te,splice cs off (dc l))) w'→K (a.put o.dst (.int .i64 (l.length:Nat))) w'):o.wp P a w K Q:=by
  obtain ⟨w',h1,h2⟩:=sW ho hA hu hs hx hy hl hr hk hD hfit
  unfold Oper.wp
  rw [h1]
  exact h w' h2
theorem uw {t:TypeId} {ps:Array (Nat × Operand)} (_:o.op= .build t ps) (h:wpList P ops Q (o::rest) a w):wpList P ops Q (o::rest) a w:=h
theorem wp_build {K:Act→World→Prop} {t:TypeId} {ps:Array (Nat × Operand)} (ho:o.op= .build t ps) {v:Value} (hr:(Instr.build t (ps.map fun (i,x)=>(i,a.eval x))).run P w= .ok v w) (h:K (a.put o.dst v) w):o.wp P a w K Q:=by
  unfold Oper.wp execOp
  simp only [ho,Sem.run_bind,hr,Result.andThen_ok,Sem.run_pure]
  exact h
theorem jZ {t e:TypeId} {x:Operand} {lo hi:Option Operand} (ho:o.op= .slice t x lo hi none) {n size:Nat} (hu:P.underlying t=some (.array n e))
    (hs:(P.info? e).map (·.size)=some size) {ad:Addr} (hx:a.eval x= .pointer (some ad)) (l h:Nat) (hlo:gX (lo.map a.eval) 0 l) (hhi:gX (hi.map a.eval) n h) (h1:l≤h) (h2:h≤n)
    {v:Value} (hv:Value.slice (sub (some ad) l n size) (h-l) (n-l)=v):(execOp a.eval o).run P w= .ok (.value v) w:=by
  subst hv
  unfold execOp
  simp only [ho,hx,Instr.sliceAt,Instr.sureAddr,Sem.run_bind,Sem.run_pure,Result.andThen_ok,run_underlying hu w,iU false n n hlo hhi h1 h2,run_sizeOf hs,Option.map_none]
  have he:some (if n=l then ad else ad.add (l*size))=sub (some ad) l n size:=by unfold sub; split <;> rfl
  rw [he]
theorem mO {t e:TypeId} {x:Operand} {lo hi:Option Operand} (ho:o.op= .slice t x lo hi none) {size:Nat} (hu:P.underlying t=some (.slice e))
    (hs:(P.info? e).map (·.size)=some size) {A:Option Addr} {len cap:Nat} (hx:a.eval x= .slice A len cap) (l h:Nat) (hlo:gX (lo.map a.eval) 0 l) (hhi:gX (hi.map a.eval) len h) (h1:l≤h) (h2:h≤cap)
    {v:Value} (hv:Value.slice (sub A l cap size) (h-l) (cap-l)=v):(execOp a.eval o).run P w= .ok (.value v) w:=by
  subst hv
  unfold execOp
  simp only [ho,hx,Instr.sliceAt,Instr.slice,Sem.run_bind,Sem.run_pure,Result.andThen_ok,run_underlying hu w,iU true len cap hlo hhi h1 h2,run_sizeOf hs,Option.map_none]
  rfl
def lenV:Value→Nat
  | .slice _ n _=>n
  | _=>0
end
end Go.Dk
namespace Go.Dk
open Go Go.RowKit
def ng (P:Program) (e:TypeId):Prop:=(P.info? e).map (fun i=>(i.zero,i.size,i.bytes))=some (some (.int .u8 0),1,1)
theorem uO {P:Program} {e:TypeId} (h:ng P e):∃ i,P.info? e=some i∧i.zero=some (.int .u8 0)∧i.size=1∧i.bytes=1:=by
  unfold ng at h
  cases hi:P.info? e with
  | none=>simp [hi] at h
  | some i =>
    rw [hi] at h
    simp only [Option.map_some,Option.some.injEq,Prod.mk.injEq] at h
    exact ⟨i,rfl,h.1,h.2.1,h.2.2⟩
theorem Bts.fresh {w0 w:World} {L:List Row} {A:Option Addr} {l:List UInt8} (h:Bts w0 A l) (hA:At w0 L w) (hn:∀ r∈L,w0.heap.size≤r.1):Bts w A l:=fun hne=>by
  obtain ⟨b,o,rfl,hb,hc⟩:=h hne
  have hs:=hA.size
  refine ⟨b,o,rfl,ag,fun i hi=>(hA.old hb (fun hm=>?_) _ _).trans (hc i hi)⟩
  obtain ⟨r,hr,rfl⟩:=List.mem_map.1 hm
  have:=hn r hr
  omega
section
variable {P:Program} {ops:Array Oper} {Q:Exit→Act→World→Prop} {a:Act} {w0 w:World} {L:List Row} {rest:List Oper} {o:Oper}
theorem qP {t t' e:TypeId} {x:Operand} (ho:o.op= .convert t t' x) (hu:P.underlying t=some (.slice e)) (he:P.underlying e=some (.int .u8)) (hd:P.underlying t'=some .string)
    {A:Option Addr} {c n:Nat} {l:List UInt8} (hx:a.eval x= .slice A n c) (hn:n=l.length) (hne:l≠[]) (hr:Bts w A l):(execOp a.eval o).run P w= .ok (.value (.string ⟨l.toArray⟩)) w:=by
  subst hn
  obtain ⟨b,o',rfl,hb,hc⟩:=hr hne
  have h:=run_convert_bytes_back (P:=P) w t t' e ⟨b,o',none⟩ c l hu he hd (fun j hj=>by rw [Addr.add_mid,hc j hj]; simp [bAt,hj])
  unfold execOp
  simp only [ho,hx,Sem.run_bind,h,Result.andThen_ok,Sem.run_pure]
theorem FZ {K:Act→World→Prop} {t:TypeId} {n:Nat} {ps:Array (Nat × Operand)} (ho:o.op= .buildSlice t n ps) (hA:At w0 L w) {e:TypeId} {cells:Array Value}
    (hr:(Instr.buildSlice t n (ps.map fun (i,x)=>(i,a.eval x))).run P w= .ok (.slice (some ⟨w.heap.size,0,none⟩) n n) (w.alloc (.cells cells e)))
    (h:∀ g w',w.heap.size≤g→At w0 ((g,e,cells.toList)::L) w'→K (a.put o.dst (.slice (some ⟨g,0,none⟩) n n)) w'):o.wp P a w K Q:=by
  have h1:=h w.heap.size (w.alloc (.cells cells e)) (P5 _) (hA.alloc _ _)
  unfold Oper.wp execOp
  simp only [ho,Sem.run_bind,hr,Result.andThen_ok,Sem.run_pure]
  exact h1
theorem Nj {K:Act→World→Prop} {t:TypeId} {x:Operand} (ho:o.op= .buildSlice t 1 #[(0,x)]) (hA:At w0 L w) {v:Value} (hx:a.eval x=v) {e:TypeId} {cells:Array Value}
    (hr:(Instr.buildSlice t 1 #[(0,v)]).run P w= .ok (.slice (some ⟨w.heap.size,0,none⟩) 1 1) (w.alloc (.cells cells e)))
    (h:∀ g w',w.heap.size≤g→At w0 ((g,e,cells.toList)::L) w'→K (a.put o.dst (.slice (some ⟨g,0,none⟩) 1 1)) w'):o.wp P a w K Q:=by
  subst hx
  exact FZ ho hA (by simpa using hr) h
end
end Go.Dk
namespace Go.Dk
open Go Go.RowKit
section
variable {P:Program} {ops:Array Oper} {Q:Exit→Act→World→Prop} {a:Act} {w0 w:World} {L:List Row} {rest:List Oper} {o:Oper}
theorem val_u64 {a b:Int} (h:a=b):Value.int .u64 a= .int .u64 b:=by rw [h]
end
end Go.Dk
