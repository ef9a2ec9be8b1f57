/- Further rules of the walk over segments. Plain lemmas over the model; no program. -/
import Derived.Test.YtepbmdlgdaedpaaGreatDoorHp
/- Further rules of the walk over segments. Plain lemmas over the model; no program. -/
namespace Go.Dk
open Go Go.RowKit
section
variable {P:Program} {Q:Exit→Act→World→Prop} {w w0 w':World} {n:Nat} {F:List (Nat × Value)} {a:Act} {o:Oper} {d:Nat} {R S:List Seg} {X:Seg} {e:TypeId} {size m:Nat} {v:Value} {W:List Value} {K:Act→World→Prop} {x y z:Operand} {t tx ty te:TypeId}
theorem nP {e:TypeId} (hF:Fr n F a) (hd:o.dst=some d) (hlt:d<n) (ho:o.op= .buildSlice t 1 #[(0,x)]) (hA:Hp w0 S w) (b:UInt8) (hx:ev F x=some (.int .u8 (b.toNat:Int)))
    (hr:∀ (d:Int) (w:World),(Instr.buildSlice t 1 #[(0,.int .u8 d)]).run P w= .ok (.slice (some ⟨w.heap.size,0,none⟩) 1 1) (w.alloc (.cells #[.int .u8 d] e)))
    (h:∀ g w' a',w.heap.size≤g→Fr n ((d,.slice (some ⟨g,0,none⟩) 1 1)::F) a'→Hp w0 ([row g e (dc [b])]::S) w'→K a' w'):o.wp P a w K Q :=
  Du hF hd hlt ho (At.refl w) b hx hr (fun g w' a' hg hF' hw=>h g w' a' hg hF' (hA.thenNew hw (xG hg)))
theorem jL {u1:Value} (hF:Fr n F a) (hd:o.dst=some d) (hlt:d<n) (ho:o.op= .buildSlice t 1 #[(0,x)]) (hA:Hp w0 S w) (hx:ev F x=some u1)
    (hr:∀ w:World,(Instr.buildSlice t 1 #[(0,u1)]).run P w= .ok (.slice (some ⟨w.heap.size,0,none⟩) 1 1) (w.alloc (.cells #[u1] e)))
    (h:∀ g w' a',w.heap.size≤g→Fr n ((d,.slice (some ⟨g,0,none⟩) 1 1)::F) a'→Hp w0 ([row g e [u1]]::S) w'→K a' w'):o.wp P a w K Q :=
  JE hF hd hlt ho (At.refl w) hx hr (fun g w' a' hg hF' hw=>h g w' a' hg hF' (hA.thenNew hw (xG hg)))
theorem Rc.src {A:Option Addr} {l:List UInt8} {c:Nat} {e':TypeId} (h:Rd w0 R A l) (hq:Hq w0 R w) (hux:P.underlying tx=some (.slice e')):Src P 1 tx (.slice A l.length c) l.length (dc l) w:=(h.bts hq).src hux
theorem Rc.srcC {A:Option Addr} {c m:Nat} {e':TypeId} (h:Rc w0 R A W) (hq:Hq w0 R w) (hux:P.underlying tx=some (.slice e')) (hs:0<size) (hW:W.length=m*size) (hv:∀ v∈W,v.oneCell'=true):Src P size tx (.slice A m c) m W w:=by
  cases A with
  | none =>
    have hW0:W=[]:=by
      cases W with
      | nil=>rfl
      | cons v W=>obtain ⟨_,_,h1,_⟩:=h (by simp); cases h1
    subst hW0
    have hm:m=0:=by
      rcases Nat.mul_eq_zero.1 hW.symm with h | h
      · exact h
      · omega
    subst hm; exact Src.ofNil w hux c
  | some ad =>
    refine Src.ofSlice w hux ad m c W hW (fun j u hj=>?_) hv
    obtain ⟨b,o',h1,h2⟩:=h (fun e=>by rw [e] at hj; cases hj)
    injection h1 with h1
    subst h1
    rw [Addr.add_mid,(h2 w hq).2 j (List.getElem?_eq_some_iff.1 hj).1]
    exact hj
theorem KU {k k':IntKind} {p q r:Int} {ts:Array TypeId} (ho:o.op= .call { callee:= .builtin .max,args := #[x,y],argTypes:=ts }) (hx:ev F x=some (.int k p)) (hy:ev F y=some (.int k' q)) (hr:max p q=r):Yd P n F o w (.int k r):=fun a hF=>by
  have h:(if q>p then q else p)=max p q:=by rw [Int.max_def]; split <;> split <;> omega
  subst hr
  unfold execOp
  simp only [ho,hF.ev hx,hF.ev hy,resolve,invoke,builtin,Builtin.max_,List.map_toArray,List.map_cons,List.map_nil,Sem.run_bind,Sem.run_pure,Result.andThen_ok,List.foldlM_cons,List.foldlM_nil,Builtin.max2,h]
theorem KT {k k':IntKind} {p q r:Int} {ts:Array TypeId} (ho:o.op= .call { callee:= .builtin .min,args := #[x,y],argTypes:=ts }) (hx:ev F x=some (.int k p)) (hy:ev F y=some (.int k' q)) (hr:min p q=r):Yd P n F o w (.int k r):=fun a hF=>by
  have h:(if q<p then q else p)=min p q:=by rw [Int.min_def]; split <;> split <;> omega
  subst hr
  unfold execOp
  simp only [ho,hF.ev hx,hF.ev hy,resolve,invoke,builtin,Builtin.min_,List.map_toArray,List.map_cons,List.map_nil,Sem.run_bind,Sem.run_pure,Result.andThen_ok,List.foldlM_cons,List.foldlM_nil,Builtin.min2,h]
theorem dK {b p m:Nat} (ho:o.op= .load t x) (hA:Hq w0 R w) (hx:ev F x=some (.pointer (some ⟨b,p,none⟩))) {q:Nat} (hc:∀ x,Hq w0 R x→b<x.heap.size∧∀ i,i<W.length→x.cell? ⟨b,q+i,none⟩=W[i]?) (i:Nat) (hi:i+m≤W.length) (hp:p=q+i) {new:List Value} (he:(W.drop i).take m=new) (hr:isRow P t m=true):Yd P n F o w (.agg new.toArray):=fun a hF=>by
  subst hp he
  obtain ⟨d,hu,hd,hs⟩:=kT hr
  unfold execOp
  simp only [ho,hF.ev hx,Instr.loadAt,Instr.sureAddr,Sem.run_bind,Sem.run_pure,Result.andThen_ok]
  rw [run_loadVar_mid w b (q+i) t ((W.drop i).take m) d (fun j v hj=>by
    have hlt:=(List.getElem?_eq_some_iff.1 hj).1
    rw [List.length_take,List.length_drop] at hlt
    rw [Nat.add_assoc,(hc w hA).2 (i+j) ag,← hj,List.getElem?_take,if_pos ag,List.getElem?_drop]) hu hd (by rw [hs,List.length_take,List.length_drop]; congr 1; omega)]
  rfl
theorem xY {z:Nat} {Ws:List (List Value)} (hz:∀ W∈Ws,W.length=z):Ws.flatten.length=Ws.length*z:=by
  induction Ws with
  | nil=>simp
  | cons V Ws ih=>rw [List.flatten_cons,List.length_append,List.length_cons,Nat.add_mul,Nat.one_mul,hz V (Nu ..),ih (fun W hW=>hz W (Nw _ hW))]; omega
theorem flat_at {z i:Nat} {Ws:List (List Value)} {V:List Value} (hz:∀ W∈Ws,W.length=z) (hi:Ws[i]? = some V):(Ws.flatten.drop (i*z)).take z=V∧i*z+z≤Ws.flatten.length:=by
  induction Ws generalizing i with
  | nil=>simp at hi
  | cons U Ws ih =>
    have hU:=hz U (Nu ..)
    cases i with
    | zero =>
      simp only [List.getElem?_cons_zero,Option.some.injEq] at hi
      subst hi
      rw [Nat.zero_mul,List.drop_zero,List.flatten_cons,List.take_left' hU,List.length_append]
      exact ⟨rfl,ag⟩
    | succ i =>
      rw [List.getElem?_cons_succ] at hi
      obtain ⟨h1,h2⟩:=ih (fun W hW=>hz W (Nw _ hW)) hi
      rw [List.flatten_cons,List.drop_append,List.drop_of_length_le (by rw [hU,Nat.add_mul]; omega),List.nil_append,hU,Nat.add_mul,Nat.one_mul,Nat.add_sub_cancel,List.length_append]
      exact ⟨h1,ag⟩
theorem fM {ps:Array (Nat × Operand)} {qs:Array (Nat × Value)} (ho:o.op= .build t ps) (hps:ps.toList.map (fun p=>(p.1,ev F p.2))=qs.toList.map (fun q=>(q.1,some q.2))) (hr:∀ w,(Instr.build t qs).run P w= .ok v w):Yd P n F o w v:=fun a hF=>by
  have h1:∀ (xs:List (Nat × Operand)) (vs:List (Nat × Value)),xs.map (fun p=>(p.1,ev F p.2))=vs.map (fun q=>(q.1,some q.2))→xs.map (fun p=>(p.1,a.eval p.2))=vs:=by
    intro xs
    induction xs with
    | nil=>intro vs h; cases vs <;> simp_all
    | cons p xs ih =>
      intro vs h
      cases vs with
      | nil=>simp at h
      | cons q vs =>
        simp only [List.map_cons,List.cons.injEq,Prod.mk.injEq] at h
        simp only [List.map_cons,hF.ev h.1.2,h.1.1,ih vs h.2]
  have h2:(ps.map fun (p:Nat × Operand)=>(p.1,a.eval p.2))=qs:=by
    apply Array.ext'
    rw [Array.toList_map]
    exact h1 _ _ hps
  unfold execOp
  simp only [ho,Sem.run_bind]
  rw [h2,hr w]
  simp only [Result.andThen_ok,Sem.run_pure]
theorem xO {bytes:Nat} {u:Value} (hF:Fr n F a) (hd:o.dst=some d) (hlt:d<n) (ho:o.op= .makeSlice t x y) (hA:Hp w0 S w) (hu:P.underlying t=some (.slice e))
    (hb:(P.info? e).map (fun i=>(i.zero.map (fun z=>z.cells.toList),i.size,i.bytes))=some (some (List.replicate size u),size,bytes)) (hs:0<size)
    {kl kc:IntKind} {p q:Int} (m:Nat) (hx:ev F x=some (.int kl p)) (hy:ev F y=some (.int kc q)) (hp:p=m) (hq:q=m) (hm:bytes*m≤281474976710656) (hm2:m≤9223372036854775807)
    (h:∀ g w' a',w.heap.size≤g→Fr n ((d,.slice (some ⟨g,0,none⟩) m m)::F) a'→Hp w0 ([row g e (List.replicate (m*size) u)]::S) w'→K a' w'):o.wp P a w K Q:=by
  subst hp hq
  cases hi:P.info? e with
  | none=>simp [hi] at hb
  | some i =>
    rw [hi] at hb
    simp only [Option.map_some,Option.some.injEq,Prod.mk.injEq] at hb
    obtain ⟨hz,hsz,hbb⟩:=hb
    cases hz0:i.zero with
    | none=>simp [hz0] at hz
    | some z =>
      rw [hz0] at hz
      simp only [Option.map_some,Option.some.injEq] at hz
      have hr:=run_make (P:=P) w t e i z hu hi hz0 kl kc m m ag ag (by rw [hbb,← Int.natCast_mul]; exact Int.ofNat_le.2 hm) ag
      have hc:(madeCells z.cells (m*size)).toList=List.replicate (m*size) u:=by
        have hzs:z.cells.size=size:=by rw [← Array.length_toList,hz,List.length_replicate]
        apply List.ext_getElem
        · simp [size_madeCells]
        · intro j h1 h2
          have h3:j%z.cells.size<z.cells.size:=Nat.mod_lt _ ag
          have h4:z.cells.toList[j%z.cells.size]'(by simpa using h3)=u:=List.eq_of_mem_replicate (n:=size) (by rw [← hz]; exact List.getElem_mem _)
          simp only [madeCells,Array.toList_map,List.getElem_map,Array.toList_range,List.getElem_range,List.getElem_replicate]
          rw [getElem!_pos z.cells _ h3]
          simpa using h4
      have h1:=(At.refl w).alloc (madeCells z.cells (m*size)) e
      rw [hc] at h1
      rw [hsz,Int.toNat_natCast] at hr
      unfold Oper.wp execOp
      simp only [ho,hF.ev hx,hF.ev hy,Sem.run_bind,Sem.run_pure,hr,Result.andThen_ok,Oper.upon_value,hd]
      exact h _ _ _ (Nv _) (hF.put hlt) (hA.thenNew h1 (xG (Nv _)))
abbrev Piece:=Option Addr × Nat × List UInt8
def qQ (p:Piece):Value:= .slice p.1 p.2.2.length p.2.1
def PcS (w0:World) (R:List Seg) (A:Option Addr) (ps:List Piece):Prop:=Rc w0 R A (ps.map qQ)∧∀ p∈ps,p.2.2.length≤p.2.1∧Rd w0 R p.1 p.2.2
theorem PcS.mono {A:Option Addr} {ps:List Piece} (h:PcS w0 R A ps) (hs:R⊆S):PcS w0 S A ps:=⟨h.1.mono hs,fun p hp=>⟨(h.2 p hp).1,(h.2 p hp).2.mono hs⟩⟩
abbrev aj (l:List UInt8):Value:= .string ⟨l.toArray⟩
abbrev vU (ds:List (List UInt8)):List Value:=(ds.map dc).flatten
end
end Go.Dk
