/- Slices of bytes: what can be read of them, copies. Plain lemmas over the model; no program. -/
import Derived.Test.YtepbmdlgdaedpaaGreatDoorSha
import Derived.Test.YtepbmdlgdaedpaaGreatDoorMem
/- Slices of bytes: what can be read of them, copies. Plain lemmas over the model; no program. -/
namespace Go.Dk
open Go Go.RowKit
theorem oH {l:List UInt8} {i:Nat} (h:i<l.length):l[i]? = some (bAt l i):=by simp [bAt,h]
theorem BL {l:List UInt8} {i k:Nat} (h:i<k):bAt (l.take k) i=bAt l i:=by simp [bAt,h]
theorem BM {l:List UInt8} {i k:Nat}:bAt (l.drop k) i=bAt l (k+i):=by simp [bAt,List.getElem?_drop]
theorem oh {l:List UInt8} {i:Nat} (h:i<l.length):(dc l)[i]? = some (.int .u8 (bAt l i).toNat):=by simp [dc,bAt,h]
theorem gm (a b:List UInt8):dc (a++b)=dc a++dc b:=by simp [dc]
theorem aQ (a:List UInt8):(dc a).length=a.length:=by simp [dc]
theorem dc_take (a:List UInt8) (k:Nat):(dc a).take k=dc (a.take k):=by simp [dc]
theorem DY (a:List UInt8) (k:Nat):(dc a).drop k=dc (a.drop k):=by simp [dc]
theorem jR (D:List UInt8):∀ v∈dc D,v.oneCell'=true:=by
  intro v hv
  simp only [dc,List.mem_map] at hv
  obtain ⟨b,_,rfl⟩:=hv
  rfl
def Bts (w:World) (A:Option Addr) (l:List UInt8):Prop :=
  l≠[]→∃ b o,A=some ⟨b,o,none⟩∧b<w.heap.size∧∀ i,i<l.length→w.cell? ⟨b,o+i,none⟩=some (.int .u8 (bAt l i).toNat)
def Off (A:Option Addr) (g:Nat):Prop:=∀ ad,A=some ad→ad.block≠g
section
variable {w0 w w':World} {L:List Row} {A:Option Addr} {l:List UInt8} {g:Nat}
theorem Bts.nil (w:World) (A:Option Addr):Bts w A []:=fun h=>absurd rfl h
theorem Bts.drew (h:Bts w A l) (n:Nat):Bts (w.drewN n) A l:=h
theorem Bts.at_ (h:Bts w0 A l) (hA:At w0 L w) (hn:∀ r∈L,Off A r.1):Bts w A l:=fun hne=>by
  obtain ⟨b,o,rfl,hb,hc⟩:=h hne
  refine ⟨b,o,rfl,Nat.lt_of_lt_of_le hb hA.size,fun i hi=>?_⟩
  rw [hA.old hb (fun hm=>by
    obtain ⟨r,hr,he⟩:=List.mem_map.1 hm
    exact hn r hr _ O he.symm)]
  exact hc i hi
theorem Bts.then0 (h:Bts w A l) (hA:At w [] w'):Bts w' A l:=h.at_ hA (fun _ hr=>by cases hr)
theorem Off.sub {k cap size:Nat} (h:Off A g):Off (sub A k cap size) g:=by
  intro ad he
  unfold Dk.sub at he
  split at he
  · exact h ad he
  · cases A with
    | none=>cases he
    | some a =>
      simp only [Option.map_some,Option.some.injEq] at he
      subst he
      have:=h a rfl
      unfold Addr.add
      split <;> exact this
theorem Bts.drop (h:Bts w A l) (k:Nat) {cap:Nat} (hc:l.length≤cap):Bts w (sub A k cap 1) (l.drop k):=fun hne=>by
  have hk:k<l.length:=by
    rcases Nat.lt_or_ge k l.length with h1 | h1
    · exact h1
    · exact absurd (List.drop_eq_nil_iff.2 h1) hne
  obtain ⟨b,o,rfl,hb,hcell⟩:=h (fun e=>by rw [e] at hk; exact absurd hk (Nat.not_lt_zero _))
  refine ⟨b,o+k,sub_lt ag,hb,fun i hi=>?_⟩
  rw [List.length_drop] at hi
  have:=hcell (k+i) ag
  rw [BM,← this,Nat.add_assoc]
theorem Bts.take (h:Bts w A l) (k:Nat):Bts w A (l.take k):=fun hne=>by
  obtain ⟨b,o,rfl,hb,hcell⟩:=h (fun e=>hne (by rw [e]; simp))
  refine ⟨b,o,rfl,hb,fun i hi=>?_⟩
  rw [List.length_take] at hi
  rw [BL ag]
  exact hcell i ag
theorem Bts.row (hA:At w0 L w) {k:Nat} {t:TypeId} {cs:List Value} (hk:L[k]? = some (g,t,cs)) {o:Nat} (hc:(cs.drop o).take l.length=dc l):Bts w (some ⟨g,o,none⟩) l:=fun _=>by
  refine ⟨g,o,rfl,hA.lt hk,fun i hi=>?_⟩
  rw [hA.cell hk]
  have h1:((cs.drop o).take l.length)[i]? = cs[o+i]? := by rw [List.getElem?_take,if_pos hi,List.getElem?_drop]
  rw [← h1,hc,oh hi]
end
section
variable {P:Program} {ops:Array Oper} {Q:Exit→Act→World→Prop} {a:Act} {w0 w:World} {L:List Row} {rest:List Oper} {o:Oper}
theorem nH {x y:Operand} {tx ty e:TypeId} (ho:o.op= .call { callee:= .builtin .copy,args := #[x,y],argTypes := #[tx,ty] }) (hA:At w0 L w)
    (hu:P.underlying tx=some (.slice e)) (hs:(P.info? e).map (·.size)=some 1) {D A:Option Addr} {dLen dc' sLen sc:Nat} (hx:a.eval x= .slice D dLen dc') (hy:a.eval y= .slice A sLen sc)
    {l:List UInt8} (hl:l.length=Nat.min sLen dLen) (hr:Bts w A l) {g off k:Nat} {te:TypeId} {cs:List Value} (hk:L[k]? = some (g,te,cs)) (hD:0<l.length→D=some ⟨g,off,none⟩) (hfit:off+l.length≤cs.length) :
    ∃ w',(execOp a.eval o).run P w= .ok (.value (.int .i64 (l.length:Nat))) w'∧At w0 (L.set k (g,te,splice cs off (dc l))) w':=by
  have hrow:=hA.row hk
  have hsz:=run_sizeOf (w:=w) hs
  by_cases hne:l=[]
  · subst hne
    have hsame:splice cs off (dc [])=cs:=by simp [splice,dc]
    have hput:=hA.put hk (splice cs off (dc []))
    rw [hsame] at hput
    have hself:=setRow_self w g _ te (0,0) hrow
    rw [hself] at hput
    refine ⟨w,?_,by rw [hsame]; exact hput⟩
    have h0:Nat.min sLen dLen=0:=hl.symm
    unfold execOp
    cases A <;> cases D <;>
    simp [ho,hx,hy,resolve,invoke,builtin,Builtin.copy_,run_underlying hu w,Builtin.lenOf,Builtin.firstCells,hsz,h0,storeCells,loadCells,loadCellsFrom,goInt]
  · obtain ⟨b,o',rfl,hb,hcell⟩:=hr hne
    have hpos:0<l.length:=List.length_pos_iff.2 hne
    obtain rfl:=hD hpos
    refine ⟨_,?_,hA.put hk (splice cs off (dc l))⟩
    have hl':=run_loadCells_list (P:=P) w ⟨b,o',none⟩ (dc l) (fun j v hj=>by
      rw [Addr.add_mid]
      have hjl:j<l.length:=by
        have:=(List.getElem?_eq_some_iff.1 hj).1
        rwa [aQ] at this
      rw [oh hjl] at hj
      rw [hcell j hjl,← hj])
    have hst:=run_storeCells_at P g off te (dc l) 0 _ w hrow (by rw [aQ]; simpa using hfit) (jR l)
    rw [aQ] at hl'
    unfold execOp
    simp only [ho,hx,hy,resolve,invoke,builtin,Builtin.copy_,Builtin.lenOf,Builtin.firstCells,List.map_toArray,List.map_cons,List.map_nil,Sem.run_bind,Sem.run_pure,Result.andThen_ok,run_underlying hu w,List.getElem?_toArray,List.getElem?_cons_zero,
      List.getElem?_cons_succ,hsz,← hl,Nat.mul_one,hl',hst,goInt]
    simp [splice]
theorem Cf {K:Act→World→Prop} {x y:Operand} {tx ty e:TypeId} (ho:o.op= .call { callee:= .builtin .copy,args := #[x,y],argTypes := #[tx,ty] }) (hA:At w0 L w)
    (hu:P.underlying tx=some (.slice e)) (hs:(P.info? e).map (·.size)=some 1) {D A:Option Addr} {dLen dc' sLen sc:Nat} (hx:a.eval x= .slice D dLen dc') (hy:a.eval y= .slice A sLen sc)
    {l:List UInt8} (hl:l.length=Nat.min sLen dLen) (hr:Bts w A l) {g off:Nat} (k:Nat) {te:TypeId} {cs:List Value} (hk:L[k]? = some (g,te,cs)) (hD:0<l.length→D=some ⟨g,off,none⟩) (hfit:off+l.length≤cs.length)
    (h:∀ w',At w0 (L.set k (g,te,splice cs off (dc l))) w'→K (a.put o.dst (.int .i64 (l.length:Nat))) w'):o.wp P a w K Q:=by
  obtain ⟨w',h1,h2⟩:=nH ho hA hu hs hx hy hl hr hk hD hfit
  unfold Oper.wp
  rw [h1]
  exact h w' h2
theorem qo {t e:TypeId} {x:Operand} {lo hi:Option Operand} (ho:o.op= .slice t x lo hi none) {n size:Nat} (hu:P.underlying t=some (.array n e))
    (hs:(P.info? e).map (·.size)=some size) {ad:Addr} (hx:a.eval x= .pointer (some ad)) (l h:Nat) (hlo:iF (lo.map a.eval) 0 l) (hhi:iF (hi.map a.eval) n h) (h1:l≤h) (h2:h≤n)
    {v:Value} (hv:Value.slice (sub (some ad) l n size) (h-l) (n-l)=v):(execOp a.eval o).run P w= .ok (.value v) w:=by
  subst hv
  unfold execOp
  simp only [ho,hx,Instr.sliceAt,Instr.sureAddr,Sem.run_bind,Sem.run_pure,Result.andThen_ok,run_underlying hu w,jw false n n hlo hhi h1 h2,run_sizeOf hs,Option.map_none]
  have he:some (if n=l then ad else ad.add (l*size))=sub (some ad) l n size:=by unfold sub; split <;> rfl
  rw [he]
theorem rQ {t e:TypeId} {x:Operand} {lo hi:Option Operand} (ho:o.op= .slice t x lo hi none) {size:Nat} (hu:P.underlying t=some (.slice e))
    (hs:(P.info? e).map (·.size)=some size) {A:Option Addr} {len cap:Nat} (hx:a.eval x= .slice A len cap) (l h:Nat) (hlo:iF (lo.map a.eval) 0 l) (hhi:iF (hi.map a.eval) len h) (h1:l≤h) (h2:h≤cap)
    {v:Value} (hv:Value.slice (sub A l cap size) (h-l) (cap-l)=v):(execOp a.eval o).run P w= .ok (.value v) w:=by
  subst hv
  unfold execOp
  simp only [ho,hx,Instr.sliceAt,Instr.slice,Sem.run_bind,Sem.run_pure,Result.andThen_ok,run_underlying hu w,jw true len cap hlo hhi h1 h2,run_sizeOf hs,Option.map_none]
  rfl
end
end Go.Dk
