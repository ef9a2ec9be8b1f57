/- A map of digests to numbers that the call itself has made. Plain lemmas over the model; no program. -/
import Derived.Test.YtepbmdlgdaedpaaGreatDoorOff
import Derived.WideKeyArr
import Derived.Laws.IdiomMaps
/- A map of digests to numbers that the call itself has made. Plain lemmas over the model; no program. -/
namespace Go.Dk
open Go Go.RowKit Go.WideMaps Go.MapKept
section
variable {P:Program} {Q:Exit→Act→World→Prop} {w w0 w':World} {n:Nat} {F:List (Nat × Value)} {a:Act}
variable {o:Oper} {d:Nat} {K:Act→World→Prop} {L:List Row} {t k e v:TypeId} {x y z:Operand} {M:List (List UInt8 × Nat)} {b:Nat}
structure DKey (P:Program) (k e:TypeId):Prop where
  arr:ArrKey P k e 32
  byte:P.underlying e=some (.int .u8)
  typ:P.keyType k=true
  lits:∃ m,P.types.size=m+1
theorem DKey.law (A:DKey P k e):KeyLaw P k:=A.arr.law
theorem mapM_some {α β:Type} (f:α→Option β) (g:α→β):∀ l:List α,(∀ a∈l,f a=some (g a))→l.mapM f=some (l.map g)
  | [],_=>rfl
  | a::l,h=>by
    rw [List.mapM_cons,h a (JI ..),mapM_some f g l (fun b hb=>h b (JJ _ hb))]
    rfl
theorem DKey.key (A:DKey P k e) (D:List UInt8) (hD:D.length=32) (hf:(Value.agg (dc D).toArray).formed P k=true):∃ l,keyOf P k (.agg (dc D).toArray)=some l:=by
  obtain ⟨m,hm⟩:=A.lits
  have h2:P.keyLits (P.types.size+1) k (dc D)=some (((List.range 32).map fun i=>[Lit.int .u8 ((bAt D i).toNat:Int)]).flatten):=by
    rw [Program.keyLits.eq_5 P k _ _ 32 e A.arr.hu]
    simp only [A.arr.size,A.arr.one,aS,hD,if_true,Nat.mul_one]
    rw [mapM_some _ (fun i=>[Lit.int .u8 ((bAt D i).toNat:Int)])]
    · rfl
    · intro i hi
      have hi':i<D.length:=by rw [hD]; exact List.mem_range.1 hi
      have h3:((dc D).drop i).take 1=[Value.int .u8 ((bAt D i).toNat:Int)]:=by
        rw [List.drop_eq_getElem_cons (by rw [aS]; exact hi'),List.take_succ_cons,List.take_zero]
        have h4:=qE hi'
        rw [List.getElem?_eq_getElem (by rw [aS]; exact hi')] at h4
        rw [Option.some.inj h4]
      have h5:=(bAt D i).toNat_lt
      have h6:(Lit.int .u8 ((bAt D i).toNat:Int)).wf=true:=by
        revert h5
        generalize (bAt D i).toNat=c
        intro h5
        simp [Lit.wf,IntKind.min,IntKind.max,IntKind.signed,IntKind.bits]
        omega
      rw [h3,hm]
      unfold Program.keyLits
      simp [A.byte,h6]
  refine ⟨.string (keyBytes (((List.range 32).map fun i=>[Lit.int .u8 ((bAt D i).toNat:Int)]).flatten)),?_⟩
  · unfold keyOf
    rw [A.arr.hu]
    simp only [A.typ,hf,Bool.and_self,if_true,Value.cells,List.toList_toArray,h2,Option.map_some]
def MapIs (P:Program) (k:TypeId) (w:World) (b:Nat) (M:List (List UInt8 × Nat)):Prop :=
  (∃ es clock,w.heap[b]? = some (.map es clock)∧es.toList.map (fun x:MapEntry=>(x.key,x.val))=M.map (fun p=>(Value.agg (dc p.1).toArray,Value.int .i64 (p.2:Int))))∧∀ p∈M,p.1.length=32∧(Value.agg (dc p.1).toArray).formed P k=true
theorem MapIs.lt (h:MapIs P k w b M):b<w.heap.size:=by
  obtain ⟨⟨es,c,h1,_⟩,_⟩:=h
  exact (Array.getElem?_eq_some_iff.1 h1).1
theorem MapIs.at_ (h:MapIs P k w b M) (hA:At w L w') (hn:b ∉ L.map (·.1)):MapIs P k w' b M:=by
  have hb:=h.lt
  obtain ⟨⟨es,c,h1,h2⟩,h3⟩:=h
  exact ⟨⟨es,c,by rw [hA.frame b hb hn]; exact h1,h2⟩,h3⟩
theorem MapIs.drawn (h:MapIs P k w b M) (m:Nat):MapIs P k (w.drewN m) b M:=h
theorem x9:∀ X Y:List UInt8,dc X=dc Y→X=Y
  | [],[],_=>rfl
  | [],_::_,h=>by simp [dc] at h
  | _::_,[],h=>by simp [dc] at h
  | a::X,b::Y,h=>by
    simp only [dc,List.map_cons,List.cons.injEq,Value.int.injEq,true_and] at h
    have h1:a=b:=UInt8.toNat_inj.1 ag
    rw [h1,x9 X Y h.2]
theorem Ii {X Y:List UInt8} (h:(Value.agg (dc X).toArray)= .agg (dc Y).toArray):X=Y:=by
  injection h with h
  exact x9 X Y (by simpa using h)
theorem MapIs.keys (A:DKey P k e) {es:Array MapEntry} (h2:es.toList.map (fun x:MapEntry=>(x.key,x.val))=M.map (fun p=>(Value.agg (dc p.1).toArray,Value.int .i64 (p.2:Int)))) (h3:∀ p∈M,p.1.length=32∧(Value.agg (dc p.1).toArray).formed P k=true) :
    ∀ x∈es.toList,∃ p∈M,x.key= .agg (dc p.1).toArray∧x.val= .int .i64 (p.2:Int)∧∃ l,keyOf P k x.key=some l:=by
  intro x hx
  have h4:(x.key,x.val)∈M.map (fun p=>(Value.agg (dc p.1).toArray,Value.int .i64 (p.2:Int))):=by rw [← h2]; exact List.mem_map.2 ⟨x,hx,rfl⟩
  obtain ⟨p,hp,he⟩:=List.mem_map.1 h4
  injection he with e1 e2
  refine ⟨p,hp,e1.symm,e2.symm,?_⟩
  rw [← e1]
  exact A.key p.1 (h3 p hp).1 (h3 p hp).2
theorem MapIs.look (h:MapIs P k w b M) (A:DKey P k e) (ht:P.underlying t=some (.map k v)) (hz:(zeroValue v).run P w= .ok (.int .i64 0) w) (D:List UInt8) (hD:D.length=32) (hf:(Value.agg (dc D).toArray).formed P k=true) :
    ((∀ p∈M,p.1≠D)∧(Instr.lookup t (.map (some b)) (.agg (dc D).toArray) true).run P w= .ok (.tuple #[.int .i64 0,.bool false]) w) ∨
    ∃ i,(D,i)∈M∧(Instr.lookup t (.map (some b)) (.agg (dc D).toArray) true).run P w= .ok (.tuple #[.int .i64 (i:Int),.bool true]) w:=by
  obtain ⟨⟨es,c,h1,h2⟩,h3⟩:=h
  obtain ⟨kl,hkl⟩:=A.key D hD hf
  have hk:=MapIs.keys A h2 h3
  rcases A.law.find w hkl es.toList (fun x hx=>(hk x hx).choose_spec.2.2.2) with ⟨e1,e2⟩ | ⟨j,x,e1,e2,e3⟩
  · refine .inl ⟨fun p hp hpe=>?_,by simp [Instr.lookup,run_underlying ht,MapKept.run_getObj_map h1,A.law.check w _ hkl,e1,hz,Result.andThen]⟩
    have h4:(Value.agg (dc p.1).toArray,Value.int .i64 (p.2:Int))∈es.toList.map (fun x:MapEntry=>(x.key,x.val)):=by rw [h2]; exact List.mem_map.2 ⟨p,hp,rfl⟩
    obtain ⟨x,hx,hxe⟩:=List.mem_map.1 h4
    injection hxe with e3 _
    exact e2 x hx (by rw [e3,hpe])
  · obtain ⟨p,hp,e4,e5,_⟩:=hk x (List.mem_of_getElem? e2)
    have e6:p.1=D:=Ii (e4.symm.trans e3)
    refine .inr ⟨p.2,by rw [← e6]; exact hp,by simp [Instr.lookup,run_underlying ht,MapKept.run_getObj_map h1,A.law.check w _ hkl,e1,e5,Result.andThen]⟩
end
end Go.Dk
