/- A slice of one's own that is appended to again and again: nil, or a row of its own at the list's end. Plain lemmas over the model; no program. -/
import Derived.Test.YtepbmdlgdaedpaaGreatDoorStep
import Derived.Deep.DeepAppendWide
/- A slice of one's own that is appended to again and again: nil, or a row of its own at the list's end. Plain lemmas over the model; no program. -/
namespace Go.Dk
open Go Go.RowKit
theorem At.perm {w0 w:World} {L L':List Row} (h:At w0 L w) (hp:L.Perm L'):At w0 L' w :=
  ⟨h.os,h.tape,h.output,h.size,fun r hr=>h.rows r (hp.mem_iff.2 hr),(hp.map (·.1)).nodup_iff.1 h.dist,
   fun k hk hn=>h.frame k hk (fun hm=>hn ((hp.map (·.1)).mem_iff.1 hm))⟩
def iO (P:Program) (e:TypeId) (size bytes:Nat):Prop:=∃ i z,P.info? e=some i∧i.zero=some z∧i.size=size∧i.bytes=bytes∧z.cells.size=size
theorem uM {P:Program} {e:TypeId} (h:ng P e):iO P e 1 1:=by
  obtain ⟨i,h1,h2,h3,h4⟩:=uO h
  exact ⟨i,_,h1,h2,h3,h4,rfl⟩
theorem qM {P:Program} {e:TypeId} {size bytes:Nat} {z:Value} (h:(P.info? e).map (fun i=>(i.zero,i.size,i.bytes))=some (some z,size,bytes)) (hz:z.cells.size=size):iO P e size bytes:=by
  cases hi:P.info? e with
  | none=>simp [hi] at h
  | some i =>
    rw [hi] at h
    simp only [Option.map_some,Option.some.injEq,Prod.mk.injEq] at h
    exact ⟨i,z,hi,h.1,h.2.1,h.2.2,hz⟩
def Own (w0:World) (e:TypeId) (size:Nat) (X:List Row) (v:Value) (n:Nat) (W:List Value):Prop :=
  W.length=n*size∧((v= .slice none 0 0∧n=0∧X=[])∨∃ g c Z,v= .slice (some ⟨g,0,none⟩) n c∧n≤c∧w0.heap.size≤g∧Z.length=(c-n)*size∧X=[(g,e,W++Z)])
theorem Own.nil (w0:World) (e:TypeId) (size:Nat):Own w0 e size [] (.slice none 0 0) 0 []:=⟨by simp,.inl ⟨rfl,rfl,rfl⟩⟩
section
variable {w0 w:World} {R X:List Row} {e:TypeId} {size n:Nat} {v:Value} {W:List Value}
theorem Own.slice (h:Own w0 e size X v n W):∃ A c,v= .slice A n c∧n≤c:=by
  rcases h.2 with ⟨h1,h2,_⟩ | ⟨g,c,_,h1,h2,_⟩
  · subst h2; exact ⟨_,_,h1,P5 _⟩
  · exact ⟨_,_,h1,h2⟩
theorem Own.new (h:Own w0 e size X v n W):∀ r∈X,w0.heap.size≤r.1:=by
  rcases h.2 with ⟨_,_,h3⟩ | ⟨g,c,Z,_,_,h3,_,h5⟩
  · subst h3; intro r hr; cases hr
  · subst h5; intro r hr; simp only [List.mem_singleton] at hr; subst hr; exact h3
theorem Own.bts {l:List UInt8} (h:Own w0 e 1 X v n (dc l)) (hA:At w0 (R++X) w):∃ A c,v= .slice A n c∧n≤c∧n=l.length∧Bts w A l∧∀ ad,A=some ad→ad.block<w.heap.size∧w0.heap.size≤ad.block∧ad.block∈X.map (·.1):=by
  have hn:n=l.length:=by have:=h.1; rw [aI] at this; omega
  rcases h.2 with ⟨h1,h2,_⟩ | ⟨g,c,Z,h1,h2,h3,_,h5⟩
  · have:l=[]:=List.length_eq_zero_iff.1 ag
    subst this
    subst h2
    exact ⟨_,_,h1,P5 _,hn,Bts.nil _ _,fun ad he=>by cases he⟩
  · subst h5
    have hk:(R++[(g,e,dc l++Z)])[R.length]? = some (g,e,dc l++Z):=by simp
    refine ⟨_,_,h1,h2,hn,Bts.row hA hk (by rw [List.drop_zero,List.take_append_of_le_length (by rw [aI]; exact P5 _),P8 (by rw [aI]; exact P5 _)]),fun ad he=>?_⟩
    cases he
    exact ⟨hA.lt hk,h3,by simp⟩
theorem uQ (zs:Array Value) (n:Nat):(Builtin.zeroCells zs n).toList.length=n*zs.size:=by simp [Builtin.zeroCells]
end
section
variable {P:Program} {ops:Array Oper} {Q:Exit→Act→World→Prop} {a:Act} {w0 w:World} {R X:List Row} {rest:List Oper} {o:Oper}
theorem Bts.src {A:Option Addr} {l:List UInt8} {c:Nat} {tx e':TypeId} (hux:P.underlying tx=some (.slice e')) (hr:Bts w A l):Src P 1 tx (.slice A l.length c) l.length (dc l) w:=by
  by_cases hl:l=[]
  · subst hl
    cases A with
    | none=>exact Src.ofNil w hux c
    | some ad=>exact Src.ofSlice w hux ad 0 c [] (by simp) (fun j u hj=>by simp at hj) (fun u hu=>by cases hu)
  · obtain ⟨b,o',rfl,hbl,hcell⟩:=hr hl
    exact Src.ofSlice w hux ⟨b,o',none⟩ l.length c (dc l) (by rw [aI,Nat.mul_one])
      (fun j u hj=>by
        have hjl:j<l.length:=by have:=(List.getElem?_eq_some_iff.1 hj).1; rwa [aI] at this
        rw [ui hjl] at hj
        rw [Addr.add_mid,hcell j hjl,← hj]) (iw l)
theorem At.setCells {L:List Row} {k g:Nat} {t:TypeId} {cs new:List Value} {off:Nat} (h:At w0 L w) (hk:L[k]? = some (g,t,cs)) (hl:off+new.length≤cs.length) :
    At w0 (L.set k (g,t,splice cs off new)) (w.setCells g off new):=by
  induction new generalizing off w L cs with
  | nil =>
    have e1:splice cs off []=cs:=by simp [splice]
    have e2:L.set k (g,t,cs)=L:=by
      apply List.ext_getElem?
      intro i
      rw [List.getElem?_set]
      split
      · rename_i e
        subst e
        obtain ⟨hkl,hv⟩:=List.getElem?_eq_some_iff.1 hk
        simp [hkl,hv]
      · rfl
    rw [e1,e2]
    exact h
  | cons v rest ih =>
    have hkl:k<L.length:=(List.getElem?_eq_some_iff.1 hk).1
    simp only [List.length_cons] at hl
    have h1:=h.put hk (cs.set off v)
    have hs:w.setCell ⟨g,off,none⟩ v=w.setRow g (cs.set off v).toArray:=by
      rw [setCell_eq_setRow w g off _ t (0,0) v (h.row hk)]
      simp
    rw [← hs] at h1
    have h2:=ih (off:=off+1) (cs:=cs.set off v) h1 (by simp [hkl]) (by simp; omega)
    have e1:splice (cs.set off v) (off+1) rest=splice cs off (v::rest):=by
      unfold splice
      have hoff:off<cs.length:=by omega
      rw [List.take_set,List.take_succ_eq_append_getElem hoff,List.set_append,if_neg (by rw [List.length_take]; omega),List.length_take,show off-min off cs.length=0 by omega,List.drop_set_of_lt ag]
      simp [Nat.add_assoc,Nat.add_comm 1]
    rw [e1,List.set_set] at h2
    exact h2
theorem Be {y:Operand} {x:Operand} {t tx e:TypeId} {size bytes:Nat} (ho:o.op= .call { callee:= .builtin .append,args := #[x,y],argTypes := #[t,tx] })
    (hA:At w0 (R++X) w) {v:Value} {n:Nat} {W:List Value} (hO:Own w0 e size X v n W) (hu:P.underlying t=some (.slice e)) (hb:iO P e size bytes) (hx:a.eval x=v)
    {yv:Value} (hy:a.eval y=yv) {m:Nat} {news:List Value} (hs:Src P size tx yv m news w) (hmax:(n+m+(n+m)/4+192)*bytes≤281474976710656) (hbp:0<bytes) :
    ∃ v' X' w',(execOp a.eval o).run P w= .ok (.value v') w'∧Own w0 e size X' v' (n+m) (W++news)∧At w0 (R++X') w':=by
  obtain ⟨i,z,hi,hz,hsz,hbb,hzs⟩:=hb
  have hmx:n+m+(n+m)/4+192≤281474976710656:=Nat.le_trans (Nat.le_mul_of_pos_right _ hbp) hmax
  have hs':Src P i.size tx yv m news w:=by rw [hsz]; exact hs
  have hgrow:∀ (A:Option Addr) (c:Nat) (olds:List Value),olds=W→v= .slice A n c→c<n+m→(Builtin.firstCells i.size n (.slice A n c)).run P w.drew= .ok olds.toArray w.drew→(∀ r∈X,w0.heap.size≤r.1) →
      ∃ v' X' w',(execOp a.eval o).run P w= .ok (.value v') w'∧Own w0 e size X' v' (n+m) (W++news)∧At w0 (R++X') w':=by
    intro A c olds he hv hg hold hX
    subst he hv
    have hcap:Builtin.nextslicecap (n+m) c*i.bytes≤281474976710656:=by
      have h1:=nextslicecap_le_wide (need:=n+m) (old:=c) hg
      rw [hbb]
      exact Nat.le_trans (Nat.mul_le_mul_right _ h1) hmax
    have hrun:=run_append_grow_src (P:=P) w t tx o.type e i z hu hi hz A n c olds hold yv m news hs' hg ag hcap
    have hqge:=grownCap_ge w (n+m) c e
    generalize grownCap w (n+m) c e=q at hrun hqge
    have h1:=hA.drew.alloc ((olds++news).toArray++Builtin.zeroCells z.cells (q-(n+m))) e
    rw [Array.toList_append,List.toList_toArray] at h1
    refine ⟨.slice (some ⟨w.heap.size,0,none⟩) (n+m) q,[(w.heap.size,e,(olds++news)++(Builtin.zeroCells z.cells (q-(n+m))).toList)],w.drew.alloc (.cells ((olds++news).toArray++Builtin.zeroCells z.cells (q-(n+m))) e),?_,⟨?_,.inr ⟨w.heap.size,q,(Builtin.zeroCells z.cells (q-(n+m))).toList,rfl,hqge,hA.size,by rw [uQ,hzs],rfl⟩⟩,?_⟩
    · unfold execOp
      simp only [ho,hx,hy,resolve,invoke,builtin,Sem.run_bind,Sem.run_pure,Result.andThen_ok,List.map_toArray,List.map_cons,List.map_nil,hrun]
    · rw [List.length_append,hO.1,hs.newsLen,Nat.add_mul]
    · have h2:At w0 (((w.heap.size,e,(olds++news)++(Builtin.zeroCells z.cells (q-(n+m))).toList):Row)::R) (w.drew.alloc (.cells ((olds++news).toArray++Builtin.zeroCells z.cells (q-(n+m))) e)):=by
        refine h1.drop (List.Sublist.cons_cons _ (List.sublist_append_left _ _)) (fun r hr hlt=>?_)
        simp only [List.mem_cons,List.mem_append] at hr ⊢
        rcases hr with rfl | hr | hr
        · exact .inl rfl
        · exact .inr hr
        · exact absurd (hX r hr) ag
      exact h2.perm (by exact (List.perm_append_singleton _ _).symm)
  rcases hO.2 with ⟨hv,hn,hX⟩ | ⟨g,c,Z,hv,hnc,hg,hZ,hX⟩
  · subst hn
    have hW:W=[]:=List.length_eq_zero_iff.1 (by rw [hO.1]; omega)
    by_cases hm:m=0
    · subst hm
      have hnews:news=[]:=List.length_eq_zero_iff.1 (by rw [hs.newsLen]; omega)
      refine ⟨v,X,w,?_,by rw [hnews,List.append_nil]; exact hO,hA⟩
      subst hv
      have hlen:=hs'.len w
      have hcells:=hs'.cells
      rw [hnews] at hcells
      unfold execOp
      rcases hs.kind with ⟨e',hk⟩ | hk <;>
        simp [ho,hx,hy,resolve,invoke,builtin,Builtin.append_,run_underlying hu,run_underlying hk,sizeOf,typeInfo,hi,hlen,hcells]
    · exact hgrow none 0 [] hW.symm hv ag (run_firstCells_none w.drew i.size 0 0 0) hO.new
  · subst hX
    have hk:(R++[(g,e,W++Z)])[R.length]? = some (g,e,W++Z):=by simp
    by_cases hroom:n+m≤c
    · have hnl:news.length≤Z.length:=by
        rw [hs.newsLen,hZ]; exact Nat.mul_le_mul_right _ ag
      have hWl:n*i.size=W.length:=by rw [hsz,hO.1]
      have hrun:=run_append_room_src (P:=P) w t tx o.type e i hu hi g 0 n c yv m news hs' hroom
        (fun j hj=>by
          rw [hA.cell hk,Nat.zero_add,hWl,List.getElem?_eq_getElem (by rw [List.length_append]; omega)]; rfl)
        (fun j hj=>hA.frozen hk _)
      rw [Nat.zero_add,hWl] at hrun
      have h1:=hA.setCells (off:=W.length) (new:=news) hk (by rw [List.length_append]; omega)
      have e1:splice (W++Z) W.length news=(W++news)++Z.drop news.length:=by
        unfold splice
        rw [List.take_left' rfl,List.drop_append,List.drop_of_length_le ag,List.nil_append,show W.length+news.length-W.length=news.length by omega]
      have e2:(R++[(g,e,W++Z)]).set R.length (g,e,(W++news)++Z.drop news.length)=R++[(g,e,(W++news)++Z.drop news.length)]:=by simp
      rw [e1,e2] at h1
      refine ⟨.slice (some ⟨g,0,none⟩) (n+m) c,_,_,?_,⟨?_,.inr ⟨g,c,Z.drop news.length,rfl,hroom,hg,?_,rfl⟩⟩,h1⟩
      · unfold execOp
        simp only [ho,hx,hy,hv,resolve,invoke,builtin,Sem.run_bind,Sem.run_pure,Result.andThen_ok,List.map_toArray,List.map_cons,List.map_nil,hrun]
      · rw [List.length_append,hO.1,hs.newsLen,Nat.add_mul]
      · rw [List.length_drop,hZ,hs.newsLen,← Nat.sub_mul,Nat.sub_sub]
    · refine hgrow (some ⟨g,0,none⟩) c W rfl hv ag ?_ hO.new
      exact run_firstCells_some (P:=P) w.drew i.size n ⟨g,0,none⟩ n c W (by rw [hO.1,hsz]) (fun j u hj=>by
        rw [Addr.add_mid,hA.drew.cell hk,Nat.zero_add,List.getElem?_append_left (List.getElem?_eq_some_iff.1 hj).1,hj])
theorem uB {K:Act→World→Prop} {y:Operand} {x:Operand} {t tx e:TypeId} {size bytes:Nat} (ho:o.op= .call { callee:= .builtin .append,args := #[x,y],argTypes := #[t,tx] })
    (R:List Row) (hA:At w0 (R++X) w) {v:Value} {n:Nat} {W:List Value} (hO:Own w0 e size X v n W) (hu:P.underlying t=some (.slice e)) (hb:iO P e size bytes) (hx:a.eval x=v)
    {yv:Value} (hy:a.eval y=yv) {m:Nat} {news:List Value} (hs:Src P size tx yv m news w) (hmax:(n+m+(n+m)/4+192)*bytes≤281474976710656) (hbp:0<bytes)
    (h:∀ v' X' w',Own w0 e size X' v' (n+m) (W++news)→At w0 (R++X') w'→K (a.put o.dst v') w'):o.wp P a w K Q:=by
  obtain ⟨v',X',w',h1,h2,h3⟩:=Be ho hA hO hu hb hx hy hs hmax hbp
  unfold Oper.wp
  rw [h1]
  exact h v' X' w' h2 h3
end
end Go.Dk
