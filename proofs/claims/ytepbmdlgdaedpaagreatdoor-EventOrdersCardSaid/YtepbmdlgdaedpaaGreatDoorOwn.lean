/- Texts that belong together, one behind the other. -/
import Derived.Test.YtepbmdlgdaedpaaGreatDoorBytes
import Derived.Laws.MakeOwn
import Derived.Deep.AppendSrc
import Derived.Laws.IdiomStrings
import Derived.Deep.DeepAppendWide
namespace Go.Dk
open Go Go.RowKit
def jT (P:Program) (e:TypeId):Prop:=(P.info? e).map (fun i=>(i.zero,i.size,i.bytes))=some (some (.int .u8 0),1,1)
theorem oV {P:Program} {e:TypeId} (h:jT P e):∃ i,P.info? e=some i∧i.zero=some (.int .u8 0)∧i.size=1∧i.bytes=1:=by
  unfold jT at h
  cases hi:P.info? e with
  | none=>simp [hi] at h
  | some i =>
    rw [hi] at h
    simp only [Option.map_some,Option.some.injEq,Prod.mk.injEq] at h
    exact ⟨i,rfl,h.1,h.2.1,h.2.2⟩
section
variable {P:Program} {ops:Array Oper} {Q:Exit→Act→World→Prop} {a:Act} {w0 w:World} {L:List Row} {rest:List Oper} {o:Oper}
theorem mf {t t' e:TypeId} {x:Operand} (ho:o.op= .convert t t' x) (hu:P.underlying t=some (.slice e)) (he:P.underlying e=some (.int .u8)) (hd:P.underlying t'=some .string)
    {A:Option Addr} {c n:Nat} {l:List UInt8} (hx:a.eval x= .slice A n c) (hn:n=l.length) (hne:l≠[]) (hr:Bts w A l):(execOp a.eval o).run P w= .ok (.value (.string ⟨l.toArray⟩)) w:=by
  subst hn
  obtain ⟨b,o',rfl,hb,hc⟩:=hr hne
  have h:=run_convert_bytes_back (P:=P) w t t' e ⟨b,o',none⟩ c l hu he hd (fun j hj=>by rw [Addr.add_mid,hc j hj]; simp [bAt,hj])
  unfold execOp
  simp only [ho,hx,Sem.run_bind,h,Result.andThen_ok,Sem.run_pure]
theorem yT {K:Act→World→Prop} {t:TypeId} {n:Nat} {ps:Array (Nat × Operand)} (ho:o.op= .buildSlice t n ps) (hA:At w0 L w) {e:TypeId} {cells:Array Value}
    (hr:(Instr.buildSlice t n (ps.map fun (i,x)=>(i,a.eval x))).run P w= .ok (.slice (some ⟨w.heap.size,0,none⟩) n n) (w.alloc (.cells cells e)))
    (h:∀ g w',w.heap.size≤g→At w0 ((g,e,cells.toList)::L) w'→K (a.put o.dst (.slice (some ⟨g,0,none⟩) n n)) w'):o.wp P a w K Q:=by
  have h1:=h w.heap.size (w.alloc (.cells cells e)) (Ib _) (hA.alloc _ _)
  unfold Oper.wp execOp
  simp only [ho,Sem.run_bind,hr,Result.andThen_ok,Sem.run_pure]
  exact h1
theorem EI {K:Act→World→Prop} {t:TypeId} {x:Operand} (ho:o.op= .buildSlice t 1 #[(0,x)]) (hA:At w0 L w) {v:Value} (hx:a.eval x=v) {e:TypeId} {cells:Array Value}
    (hr:(Instr.buildSlice t 1 #[(0,v)]).run P w= .ok (.slice (some ⟨w.heap.size,0,none⟩) 1 1) (w.alloc (.cells cells e)))
    (h:∀ g w',w.heap.size≤g→At w0 ((g,e,cells.toList)::L) w'→K (a.put o.dst (.slice (some ⟨g,0,none⟩) 1 1)) w'):o.wp P a w K Q:=by
  subst hx
  exact yT ho hA (by simpa using hr) h
end
end Go.Dk
namespace Go.Dk
open Go Go.RowKit
theorem At.perm {w0 w:World} {L L':List Row} (h:At w0 L w) (hp:L.Perm L'):At w0 L' w :=
  ⟨h.os,h.tape,h.output,h.size,fun r hr=>h.rows r (hp.mem_iff.2 hr),(hp.map (·.1)).nodup_iff.1 h.dist,
   fun k hk hn=>h.frame k hk (fun hm=>hn ((hp.map (·.1)).mem_iff.1 hm))⟩
def gX (P:Program) (e:TypeId) (size bytes:Nat):Prop:=∃ i z,P.info? e=some i∧i.zero=some z∧i.size=size∧i.bytes=bytes∧z.cells.size=size
theorem oP {P:Program} {e:TypeId} (h:jT P e):gX P e 1 1:=by
  obtain ⟨i,h1,h2,h3,h4⟩:=oV h
  exact ⟨i,_,h1,h2,h3,h4,rfl⟩
theorem jP {P:Program} {e:TypeId} {size bytes:Nat} {z:Value} (h:(P.info? e).map (fun i=>(i.zero,i.size,i.bytes))=some (some z,size,bytes)) (hz:z.cells.size=size):gX P e size bytes:=by
  cases hi:P.info? e with
  | none=>simp [hi] at h
  | some i =>
    rw [hi] at h
    simp only [Option.map_some,Option.some.injEq,Prod.mk.injEq] at h
    exact ⟨i,z,hi,h.1,h.2.1,h.2.2,hz⟩
def Own (w0:World) (e:TypeId) (size:Nat) (X:List Row) (v:Value) (n:Nat) (W:List Value):Prop :=
  W.length=n*size∧((v= .slice none 0 0∧n=0∧X=[])∨∃ g c Z,v= .slice (some ⟨g,0,none⟩) n c∧n≤c∧w0.heap.size≤g∧Z.length=(c-n)*size∧X=[(g,e,W++Z)])
theorem Own.nil (w0:World) (e:TypeId) (size:Nat):Own w0 e size [] (.slice none 0 0) 0 []:=⟨by simp,.inl ⟨rfl,rfl,rfl⟩⟩
section
variable {w0 w:World} {R X:List Row} {e:TypeId} {size n:Nat} {v:Value} {W:List Value}
theorem Own.slice (h:Own w0 e size X v n W):∃ A c,v= .slice A n c∧n≤c:=by
  rcases h.2 with ⟨h1,h2,_⟩ | ⟨g,c,_,h1,h2,_⟩
  · subst h2; exact ⟨_,_,h1,Ib _⟩
  · exact ⟨_,_,h1,h2⟩
theorem Own.new (h:Own w0 e size X v n W):∀ r∈X,w0.heap.size≤r.1:=by
  rcases h.2 with ⟨_,_,h3⟩ | ⟨g,c,Z,_,_,h3,_,h5⟩
  · subst h3; intro r hr; cases hr
  · subst h5; intro r hr; simp only [List.mem_singleton] at hr; subst hr; exact h3
theorem Own.bts {l:List UInt8} (h:Own w0 e 1 X v n (dc l)) (hA:At w0 (R++X) w):∃ A c,v= .slice A n c∧n≤c∧n=l.length∧Bts w A l∧∀ ad,A=some ad→ad.block<w.heap.size∧w0.heap.size≤ad.block∧ad.block∈X.map (·.1):=by
  have hn:n=l.length:=by have:=h.1; rw [aQ] at this; omega
  rcases h.2 with ⟨h1,h2,_⟩ | ⟨g,c,Z,h1,h2,h3,_,h5⟩
  · have:l=[]:=List.length_eq_zero_iff.1 ag
    subst this
    subst h2
    exact ⟨_,_,h1,Ib _,hn,Bts.nil _ _,fun ad he=>by cases he⟩
  · subst h5
    have hk:(R++[(g,e,dc l++Z)])[R.length]? = some (g,e,dc l++Z):=by simp
    refine ⟨_,_,h1,h2,hn,Bts.row hA hk (by rw [List.drop_zero,List.take_append_of_le_length (by rw [aQ]; exact Ib _),H6 (by rw [aQ]; exact Ib _)]),fun ad he=>?_⟩
    cases he
    exact ⟨hA.lt hk,h3,by simp⟩
theorem xy (zs:Array Value) (n:Nat):(Builtin.zeroCells zs n).toList.length=n*zs.size:=by simp [Builtin.zeroCells]
end
section
variable {P:Program} {ops:Array Oper} {Q:Exit→Act→World→Prop} {a:Act} {w0 w:World} {R X:List Row} {rest:List Oper} {o:Oper}
theorem Bts.src {A:Option Addr} {l:List UInt8} {c:Nat} {tx e':TypeId} (hux:P.underlying tx=some (.slice e')) (hr:Bts w A l):Src P 1 tx (.slice A l.length c) l.length (dc l) w:=by
  by_cases hl:l=[]
  · subst hl
    cases A with
    | none=>exact Src.ofNil w hux c
    | some ad=>exact Src.ofSlice w hux ad 0 c [] (by simp) (fun j u hj=>by simp at hj) (fun u hu=>by cases hu)
  · obtain ⟨b,o',rfl,hbl,hcell⟩:=hr hl
    exact Src.ofSlice w hux ⟨b,o',none⟩ l.length c (dc l) (by rw [aQ,Nat.mul_one])
      (fun j u hj=>by
        have hjl:j<l.length:=by have:=(List.getElem?_eq_some_iff.1 hj).1; rwa [aQ] at this
        rw [oh hjl] at hj
        rw [Addr.add_mid,hcell j hjl,← hj]) (jR l)
theorem At.setCells {L:List Row} {k g:Nat} {t:TypeId} {cs new:List Value} {off:Nat} (h:At w0 L w) (hk:L[k]? = some (g,t,cs)) (hl:off+new.length≤cs.length) :
    At w0 (L.set k (g,t,splice cs off new)) (w.setCells g off new):=by
  induction new generalizing off w L cs with
  | nil =>
    have e1:splice cs off []=cs:=by simp [splice]
    have e2:L.set k (g,t,cs)=L:=by
      apply List.ext_getElem?
      intro i
      rw [List.getElem?_set]
      split
      · rename_i e
        subst e
        obtain ⟨hkl,hv⟩:=List.getElem?_eq_some_iff.1 hk
        simp [hkl,hv]
      · rfl
    rw [e1,e2]
    exact h
  | cons v rest ih =>
    have hkl:k<L.length:=(List.getElem?_eq_some_iff.1 hk).1
    simp only [List.length_cons] at hl
    have h1:=h.put hk (cs.set off v)
    have hs:w.setCell ⟨g,off,none⟩ v=w.setRow g (cs.set off v).toArray:=by
      rw [setCell_eq_setRow w g off _ t (0,0) v (h.row hk)]
      simp
    rw [← hs] at h1
    have h2:=ih (off:=off+1) (cs:=cs.set off v) h1 (by simp [hkl]) (by simp; omega)
    have e1:splice (cs.set off v) (off+1) rest=splice cs off (v::rest):=by
      unfold splice
      have hoff:off<cs.length:=by omega
      rw [List.take_set,List.take_succ_eq_append_getElem hoff,List.set_append,if_neg (by rw [List.length_take]; omega),List.length_take,show off-min off cs.length=0 by omega,List.drop_set_of_lt ag]
      simp [Nat.add_assoc,Nat.add_comm 1]
    rw [e1,List.set_set] at h2
    exact h2
end
end Go.Dk
