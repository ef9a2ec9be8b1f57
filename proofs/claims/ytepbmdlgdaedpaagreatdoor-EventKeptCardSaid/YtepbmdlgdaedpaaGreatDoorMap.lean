/- Texts that belong together, one behind the other. -/
import Derived.Test.YtepbmdlgdaedpaaGreatDoorTwo
import Derived.Lib.ConvBytes
import Derived.Laws.Cover3
import Derived.LaidEqlPtr
import Derived.WideKeyArr
import Derived.Laws.IdiomMaps
namespace Go.Dk
open Go Go.RowKit
section
variable {P:Program} {Q:Exit→Act→World→Prop} {w w0:World} {n:Nat} {F:List (Nat × Value)} {a:Act}
variable {o:Oper} {d:Nat} {K:Act→World→Prop} {L:List Row} {t e:TypeId} {x y z:Operand} {u1 u2 u3:Value}
theorem JE (hF:Fr n F a) (hd:o.dst=some d) (hlt:d<n) (ho:o.op= .buildSlice t 1 #[(0,x)]) (hA:At w0 L w) (hx:ev F x=some u1)
    (hr:∀ w:World,(Instr.buildSlice t 1 #[(0,u1)]).run P w= .ok (.slice (some ⟨w.heap.size,0,none⟩) 1 1) (w.alloc (.cells #[u1] e)))
    (h:∀ g w' a',w.heap.size≤g→Fr n ((d,.slice (some ⟨g,0,none⟩) 1 1)::F) a'→At w0 ((g,e,[u1])::L) w'→K a' w'):o.wp P a w K Q :=
  Dw ho hA (by simpa [hF.ev hx] using hr w) (fun g w' hg hw=>by rw [hd]; exact h g w' _ hg (hF.put hlt) hw)
end
end Go.Dk
namespace Go.Dk
open Go Go.RowKit
def OwnP (w0:World) (e:TypeId) (size:Nat) (X:List Row) (v:Value) (n:Nat) (W:List Value):Prop :=
  W.length=n*size∧((v= .slice none 0 0∧n=0∧X=[])∨∃ g c B Z,v= .slice (some ⟨g,B.length,none⟩) n c∧n≤c∧w0.heap.size≤g∧Z.length=(c-n)*size∧X=[(g,e,B++W++Z)])
section
variable {P:Program} {Q:Exit→Act→World→Prop} {w w0:World} {n:Nat} {F:List (Nat × Value)} {a:Act} {o:Oper} {d:Nat} {R X:List Row} {e:TypeId} {size m:Nat} {v:Value} {W:List Value}
theorem OwnP.nil (w0:World) (e:TypeId) (size:Nat):OwnP w0 e size [] (.slice none 0 0) 0 []:=⟨by simp,.inl ⟨rfl,rfl,rfl⟩⟩
theorem OwnP.slice (h:OwnP w0 e size X v m W):∃ A c,v= .slice A m c∧m≤c:=by
  rcases h.2 with ⟨h1,h2,_⟩ | ⟨g,c,_,_,h1,h2,_⟩
  · subst h2; exact ⟨_,_,h1,Nv _⟩
  · exact ⟨_,_,h1,h2⟩
theorem OwnP.one (h:OwnP w0 e size X v m W):v.oneCell'=true:=by
  obtain ⟨A,c,rfl,_⟩:=h.slice
  rfl
theorem OwnP.new (h:OwnP w0 e size X v m W):∀ r∈X,w0.heap.size≤(r:Row).1:=by
  rcases h.2 with ⟨_,_,h3⟩ | ⟨g,c,_,_,_,_,h3,_,h5⟩
  · rw [h3]; intro r hr; cases hr
  · rw [h5]; intro r hr; simp only [List.mem_cons,List.not_mem_nil,or_false] at hr; subst hr; exact h3
theorem OwnP.tail {u:Value} (h:OwnP w0 e 1 X v (m+1) (u::W)):∃ g c o,v= .slice (some ⟨g,o,none⟩) (m+1) (c+1)∧OwnP w0 e 1 X (.slice (some ⟨g,o+1,none⟩) m c) m W:=by
  rcases h.2 with ⟨_,h2,_⟩ | ⟨g,c,B,Z,h1,h2,h3,h4,h5⟩
  · omega
  · obtain ⟨c',rfl⟩:∃ c',c=c'+1:=⟨c-1,ag⟩
    refine ⟨g,c',B.length,h1,?_,.inr ⟨g,c',B++[u],Z,by simp,ag,h3,ag,by rw [h5]; simp⟩⟩
    have:=h.1
    simp only [List.length_cons] at this
    omega
end
end Go.Dk
namespace Go.Dk
open Go Go.RowKit Go.WideMaps Go.MapKept
section
variable {P:Program} {Q:Exit→Act→World→Prop} {w w0 w':World} {n:Nat} {F:List (Nat × Value)} {a:Act}
variable {o:Oper} {d:Nat} {K:Act→World→Prop} {L:List Row} {t k e v:TypeId} {x y z:Operand} {M:List (List UInt8 × Nat)} {b:Nat}
structure DKey (P:Program) (k e:TypeId):Prop where
  arr:ArrKey P k e 32
  byte:P.underlying e=some (.int .u8)
  typ:P.keyType k=true
  lits:∃ m,P.types.size=m+1
theorem DKey.law (A:DKey P k e):KeyLaw P k:=A.arr.law
theorem mapM_some {α β:Type} (f:α→Option β) (g:α→β):∀ l:List α,(∀ a∈l,f a=some (g a))→l.mapM f=some (l.map g)
  | [],_=>rfl
  | a::l,h=>by
    rw [List.mapM_cons,h a (Nu ..),mapM_some f g l (fun b hb=>h b (Nw _ hb))]
    rfl
theorem DKey.key (A:DKey P k e) (D:List UInt8) (hD:D.length=32) (hf:(Value.agg (dc D).toArray).formed P k=true):∃ l,keyOf P k (.agg (dc D).toArray)=some l:=by
  obtain ⟨m,hm⟩:=A.lits
  have h2:P.keyLits (P.types.size+1) k (dc D)=some (((List.range 32).map fun i=>[Lit.int .u8 ((bAt D i).toNat:Int)]).flatten):=by
    rw [Program.keyLits.eq_5 P k _ _ 32 e A.arr.hu]
    simp only [A.arr.size,A.arr.one,aW,hD,if_true,Nat.mul_one]
    rw [mapM_some _ (fun i=>[Lit.int .u8 ((bAt D i).toNat:Int)])]
    · rfl
    · intro i hi
      have hi':i<D.length:=by rw [hD]; exact List.mem_range.1 hi
      have h3:((dc D).drop i).take 1=[Value.int .u8 ((bAt D i).toNat:Int)]:=by
        rw [List.drop_eq_getElem_cons (by rw [aW]; exact hi'),List.take_succ_cons,List.take_zero]
        have h4:=rQ hi'
        rw [List.getElem?_eq_getElem (by rw [aW]; exact hi')] at h4
        rw [Option.some.inj h4]
      have h5:=(bAt D i).toNat_lt
      have h6:(Lit.int .u8 ((bAt D i).toNat:Int)).wf=true:=by
        revert h5
        generalize (bAt D i).toNat=c
        intro h5
        simp [Lit.wf,IntKind.min,IntKind.max,IntKind.signed,IntKind.bits]
        omega
      rw [h3,hm]
      unfold Program.keyLits
      simp [A.byte,h6]
  refine ⟨.string (keyBytes (((List.range 32).map fun i=>[Lit.int .u8 ((bAt D i).toNat:Int)]).flatten)),?_⟩
  · unfold keyOf
    rw [A.arr.hu]
    simp only [A.typ,hf,Bool.and_self,if_true,Value.cells,List.toList_toArray,h2,Option.map_some]
def MapIs (P:Program) (k:TypeId) (w:World) (b:Nat) (M:List (List UInt8 × Nat)):Prop :=
  (∃ es clock,w.heap[b]? = some (.map es clock)∧es.toList.map (fun x:MapEntry=>(x.key,x.val))=M.map (fun p=>(Value.agg (dc p.1).toArray,Value.int .i64 (p.2:Int))))∧∀ p∈M,p.1.length=32∧(Value.agg (dc p.1).toArray).formed P k=true
theorem MapIs.lt (h:MapIs P k w b M):b<w.heap.size:=by
  obtain ⟨⟨es,c,h1,_⟩,_⟩:=h
  exact (Array.getElem?_eq_some_iff.1 h1).1
theorem MapIs.at_ (h:MapIs P k w b M) (hA:At w L w') (hn:b ∉ L.map (·.1)):MapIs P k w' b M:=by
  have hb:=h.lt
  obtain ⟨⟨es,c,h1,h2⟩,h3⟩:=h
  exact ⟨⟨es,c,by rw [hA.frame b hb hn]; exact h1,h2⟩,h3⟩
theorem MapIs.drawn (h:MapIs P k w b M) (m:Nat):MapIs P k (w.drewN m) b M:=h
theorem AO:∀ X Y:List UInt8,dc X=dc Y→X=Y
  | [],[],_=>rfl
  | [],_::_,h=>by simp [dc] at h
  | _::_,[],h=>by simp [dc] at h
  | a::X,b::Y,h=>by
    simp only [dc,List.map_cons,List.cons.injEq,Value.int.injEq,true_and] at h
    have h1:a=b:=UInt8.toNat_inj.1 ag
    rw [h1,AO X Y h.2]
theorem KJ {X Y:List UInt8} (h:(Value.agg (dc X).toArray)= .agg (dc Y).toArray):X=Y:=by
  injection h with h
  exact AO X Y (by simpa using h)
theorem MapIs.keys (A:DKey P k e) {es:Array MapEntry} (h2:es.toList.map (fun x:MapEntry=>(x.key,x.val))=M.map (fun p=>(Value.agg (dc p.1).toArray,Value.int .i64 (p.2:Int)))) (h3:∀ p∈M,p.1.length=32∧(Value.agg (dc p.1).toArray).formed P k=true) :
    ∀ x∈es.toList,∃ p∈M,x.key= .agg (dc p.1).toArray∧x.val= .int .i64 (p.2:Int)∧∃ l,keyOf P k x.key=some l:=by
  intro x hx
  have h4:(x.key,x.val)∈M.map (fun p=>(Value.agg (dc p.1).toArray,Value.int .i64 (p.2:Int))):=by rw [← h2]; exact List.mem_map.2 ⟨x,hx,rfl⟩
  obtain ⟨p,hp,he⟩:=List.mem_map.1 h4
  injection he with e1 e2
  refine ⟨p,hp,e1.symm,e2.symm,?_⟩
  rw [← e1]
  exact A.key p.1 (h3 p hp).1 (h3 p hp).2
theorem MapIs.look (h:MapIs P k w b M) (A:DKey P k e) (ht:P.underlying t=some (.map k v)) (hz:(zeroValue v).run P w= .ok (.int .i64 0) w) (D:List UInt8) (hD:D.length=32) (hf:(Value.agg (dc D).toArray).formed P k=true) :
    ((∀ p∈M,p.1≠D)∧(Instr.lookup t (.map (some b)) (.agg (dc D).toArray) true).run P w= .ok (.tuple #[.int .i64 0,.bool false]) w) ∨
    ∃ i,(D,i)∈M∧(Instr.lookup t (.map (some b)) (.agg (dc D).toArray) true).run P w= .ok (.tuple #[.int .i64 (i:Int),.bool true]) w:=by
  obtain ⟨⟨es,c,h1,h2⟩,h3⟩:=h
  obtain ⟨kl,hkl⟩:=A.key D hD hf
  have hk:=MapIs.keys A h2 h3
  rcases A.law.find w hkl es.toList (fun x hx=>(hk x hx).choose_spec.2.2.2) with ⟨e1,e2⟩ | ⟨j,x,e1,e2,e3⟩
  · refine .inl ⟨fun p hp hpe=>?_,by simp [Instr.lookup,run_underlying ht,MapKept.run_getObj_map h1,A.law.check w _ hkl,e1,hz,Result.andThen]⟩
    have h4:(Value.agg (dc p.1).toArray,Value.int .i64 (p.2:Int))∈es.toList.map (fun x:MapEntry=>(x.key,x.val)):=by rw [h2]; exact List.mem_map.2 ⟨p,hp,rfl⟩
    obtain ⟨x,hx,hxe⟩:=List.mem_map.1 h4
    injection hxe with e3 _
    exact e2 x hx (by rw [e3,hpe])
  · obtain ⟨p,hp,e4,e5,_⟩:=hk x (List.mem_of_getElem? e2)
    have e6:p.1=D:=KJ (e4.symm.trans e3)
    refine .inr ⟨p.2,by rw [← e6]; exact hp,by simp [Instr.lookup,run_underlying ht,MapKept.run_getObj_map h1,A.law.check w _ hkl,e1,e5,Result.andThen]⟩
end
end Go.Dk
