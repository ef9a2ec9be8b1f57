/- Texts that belong together, one behind the other. -/
import Derived.Test.YtpomngkcfbnjoaaGreatDoorTab
import Derived.WideKeyArr
import Derived.Laws.IdiomMaps
namespace Go.Dk
open Go Go.RowKit Go.WideMaps Go.MapKept
section
variable {P:Program} {Q:Exit→Act→World→Prop} {w w0 w':World} {n:Nat} {F:List (Nat × Value)} {a:Act}
variable {o:Oper} {d:Nat} {K:Act→World→Prop} {L:List Row} {t k e v:TypeId} {x y z:Operand} {M:List (List UInt8 × Nat)} {b:Nat}
structure DKey (P:Program) (k e:TypeId):Prop where
  arr:ArrKey P k e 32
  byte:P.underlying e=some (.int .u8)
  typ:P.keyType k=true
  lits:∃ m,P.types.size=m+1
theorem DKey.law (A:DKey P k e):KeyLaw P k:=A.arr.law
theorem mapM_some {α β:Type} (f:α→Option β) (g:α→β):∀ l:List α,(∀ a∈l,f a=some (g a))→l.mapM f=some (l.map g)
  | [],_=>rfl
  | a::l,h=>by
    rw [List.mapM_cons,h a (TF ..),mapM_some f g l (fun b hb=>h b (TI _ hb))]
    rfl
theorem DKey.key (A:DKey P k e) (D:List UInt8) (hD:D.length=32) (hf:(Value.agg (dc D).toArray).formed P k=true):∃ l,keyOf P k (.agg (dc D).toArray)=some l:=by
  obtain ⟨m,hm⟩:=A.lits
  have h2:P.keyLits (P.types.size+1) k (dc D)=some (((List.range 32).map fun i=>[Lit.int .u8 ((bAt D i).toNat:Int)]).flatten):=by
    rw [Program.keyLits.eq_5 P k _ _ 32 e A.arr.hu]
    simp only [A.arr.size,A.arr.one,aj,hD,if_true,Nat.mul_one]
    rw [mapM_some _ (fun i=>[Lit.int .u8 ((bAt D i).toNat:Int)])]
    · rfl
    · intro i hi
      have hi':i<D.length:=by rw [hD]; exact List.mem_range.1 hi
      have h3:((dc D).drop i).take 1=[Value.int .u8 ((bAt D i).toNat:Int)]:=by
        rw [List.drop_eq_getElem_cons (by rw [aj]; exact hi'),List.take_succ_cons,List.take_zero]
        have h4:=iP hi'
        rw [List.getElem?_eq_getElem (by rw [aj]; exact hi')] at h4
        rw [Option.some.inj h4]
      have h5:=(bAt D i).toNat_lt
      have h6:(Lit.int .u8 ((bAt D i).toNat:Int)).wf=true:=by
        revert h5
        generalize (bAt D i).toNat=c
        intro h5
        simp [Lit.wf,IntKind.min,IntKind.max,IntKind.signed,IntKind.bits]
        omega
      rw [h3,hm]
      unfold Program.keyLits
      simp [A.byte,h6]
  refine ⟨.string (keyBytes (((List.range 32).map fun i=>[Lit.int .u8 ((bAt D i).toNat:Int)]).flatten)),?_⟩
  · unfold keyOf
    rw [A.arr.hu]
    simp only [A.typ,hf,Bool.and_self,if_true,Value.cells,List.toList_toArray,h2,Option.map_some]
def MapIs (P:Program) (k:TypeId) (w:World) (b:Nat) (M:List (List UInt8 × Nat)):Prop :=
  (∃ es clock,w.heap[b]? = some (.map es clock)∧es.toList.map (fun x:MapEntry=>(x.key,x.val))=M.map (fun p=>(Value.agg (dc p.1).toArray,Value.int .i64 (p.2:Int))))∧∀ p∈M,p.1.length=32∧(Value.agg (dc p.1).toArray).formed P k=true
theorem MapIs.lt (h:MapIs P k w b M):b<w.heap.size:=by
  obtain ⟨⟨es,c,h1,_⟩,_⟩:=h
  exact (Array.getElem?_eq_some_iff.1 h1).1
theorem MapIs.at_ (h:MapIs P k w b M) (hA:At w L w') (hn:b ∉ L.map (·.1)):MapIs P k w' b M:=by
  have hb:=h.lt
  obtain ⟨⟨es,c,h1,h2⟩,h3⟩:=h
  exact ⟨⟨es,c,by rw [hA.frame b hb hn]; exact h1,h2⟩,h3⟩
theorem MapIs.drawn (h:MapIs P k w b M) (m:Nat):MapIs P k (w.drewN m) b M:=h
theorem GL:∀ X Y:List UInt8,dc X=dc Y→X=Y
  | [],[],_=>rfl
  | [],_::_,h=>by simp [dc] at h
  | _::_,[],h=>by simp [dc] at h
  | a::X,b::Y,h=>by
    simp only [dc,List.map_cons,List.cons.injEq,Value.int.injEq,true_and] at h
    have h1:a=b:=UInt8.toNat_inj.1 ag
    rw [h1,GL X Y h.2]
theorem Si {X Y:List UInt8} (h:(Value.agg (dc X).toArray)= .agg (dc Y).toArray):X=Y:=by
  injection h with h
  exact GL X Y (by simpa using h)
theorem MapIs.keys (A:DKey P k e) {es:Array MapEntry} (h2:es.toList.map (fun x:MapEntry=>(x.key,x.val))=M.map (fun p=>(Value.agg (dc p.1).toArray,Value.int .i64 (p.2:Int)))) (h3:∀ p∈M,p.1.length=32∧(Value.agg (dc p.1).toArray).formed P k=true) :
    ∀ x∈es.toList,∃ p∈M,x.key= .agg (dc p.1).toArray∧x.val= .int .i64 (p.2:Int)∧∃ l,keyOf P k x.key=some l:=by
  intro x hx
  have h4:(x.key,x.val)∈M.map (fun p=>(Value.agg (dc p.1).toArray,Value.int .i64 (p.2:Int))):=by rw [← h2]; exact List.mem_map.2 ⟨x,hx,rfl⟩
  obtain ⟨p,hp,he⟩:=List.mem_map.1 h4
  injection he with e1 e2
  refine ⟨p,hp,e1.symm,e2.symm,?_⟩
  rw [← e1]
  exact A.key p.1 (h3 p hp).1 (h3 p hp).2
theorem MapIs.look (h:MapIs P k w b M) (A:DKey P k e) (ht:P.underlying t=some (.map k v)) (hz:(zeroValue v).run P w= .ok (.int .i64 0) w) (D:List UInt8) (hD:D.length=32) (hf:(Value.agg (dc D).toArray).formed P k=true) :
    ((∀ p∈M,p.1≠D)∧(Instr.lookup t (.map (some b)) (.agg (dc D).toArray) true).run P w= .ok (.tuple #[.int .i64 0,.bool false]) w) ∨
    ∃ i,(D,i)∈M∧(Instr.lookup t (.map (some b)) (.agg (dc D).toArray) true).run P w= .ok (.tuple #[.int .i64 (i:Int),.bool true]) w:=by
  obtain ⟨⟨es,c,h1,h2⟩,h3⟩:=h
  obtain ⟨kl,hkl⟩:=A.key D hD hf
  have hk:=MapIs.keys A h2 h3
  rcases A.law.find w hkl es.toList (fun x hx=>(hk x hx).choose_spec.2.2.2) with ⟨e1,e2⟩ | ⟨j,x,e1,e2,e3⟩
  · refine .inl ⟨fun p hp hpe=>?_,by simp [Instr.lookup,run_underlying ht,MapKept.run_getObj_map h1,A.law.check w _ hkl,e1,hz,Result.andThen]⟩
    have h4:(Value.agg (dc p.1).toArray,Value.int .i64 (p.2:Int))∈es.toList.map (fun x:MapEntry=>(x.key,x.val)):=by rw [h2]; exact List.mem_map.2 ⟨p,hp,rfl⟩
    obtain ⟨x,hx,hxe⟩:=List.mem_map.1 h4
    injection hxe with e3 _
    exact e2 x hx (by rw [e3,hpe])
  · obtain ⟨p,hp,e4,e5,_⟩:=hk x (List.mem_of_getElem? e2)
    have e6:p.1=D:=Si (e4.symm.trans e3)
    refine .inr ⟨p.2,by rw [← e6]; exact hp,by simp [Instr.lookup,run_underlying ht,MapKept.run_getObj_map h1,A.law.check w _ hkl,e1,e5,Result.andThen]⟩
end
end Go.Dk
namespace Go.Proofs.YtpomngkcfbnjoaaGreatDoor
open Go.RowKit Go.Dk
def c64 (z:Int):Nat:=(z%18446744073709551616).toNat
theorem Sl (z:Int):c64 z<2 ^ 64:=by unfold c64; omega
theorem DX (z:Int):IntKind.u64.wrap z=(c64 z:Int):=by rw [IntKind.wrap_u64]; unfold c64; omega
theorem Bq:bW Tryz.prog 3=true:=af
theorem QY:(Tryz.prog.info? 3).map (·.size)=some 1:=af
theorem PS:aG Tryz.prog 84:=⟨_,Tryz.func84,af,af⟩
theorem PR:aG Tryz.prog 85:=⟨_,Tryz.func85,af,af⟩
theorem PQ:aG Tryz.prog 87:=⟨_,Tryz.func87,af,af⟩
theorem Wr.drew {w0:World} {wb:Nat} {R X:List Row} {v:Value} {l:List UInt8} {w:World} (h:Wr w0 wb R X v l w):Wr w0 wb R X v l w.drew:=⟨h.1,h.2.drew⟩
set_option maxRecDepth 100000 in
set_option maxHeartbeats 1000000 in
theorem I8 (w:World) (width C:Int) (X Y:List UInt8) (hX:X.length=32) (hY:Y.length=32) (hT:Tab w) :
  Calls Tryz.prog 61 #[.int .i64 width,.agg (dc X).toArray,.agg (.int .i64 C::dc Y).toArray] w fun e w'=>e= .returned (.agg (dc (ofL width 3 (X++be 8 (c64 C)++Y))).toArray)∧At w [] w':=by
 have hA0:=At.refl w
 have hpos:0<w.heap.size:=hT.lt
 refine aJ Tryz.func61 O Tryz.ntmps61 ai (fun a hF=>?_)
 refine wp_seq_k fun K1 hK1=>wp_region_lit ?_
 refine au O (fun K hK=>lT (cs:=dc X) hF O ae rfl hA0 O (fun b4 w1 a hb4 hF hA1=>hK _ _ ?_))
 refine au O (fun K hK=>lT (cs:=(.int .i64 C::dc Y)) hF O ae rfl hA1 O (fun b5 w2 a hb5 hF hA2=>hK _ _ ?_))
 have q5:w.heap.size≤b5:=by have:=hA1.size; omega
 refine au O (fun K hK=>fZ hF O ae rfl hA2 jE (fun b6 w3 a hb6 hF hA3=>hK _ _ ?_))
 replace hA3:At w [(b6,25,dc (List.replicate 32 0)),(b5,27,(.int .i64 C::dc Y)),(b4,25,dc X)] w3:=hA3
 refine az<|hK1 _ _ ?_
 refine wp_seq_k fun K2 hK2=>wp_region_lit ?_
 refine au O (fun K hK=>ax hF O ae PS rfl rfl ?_)
 with_reducible refine (EX w3).mono ?_
 rintro e' w4 ⟨g,rfl,hg,hA4⟩
 refine ⟨_,rfl,fun a hF=>hK _ _ ?_⟩
 have q6:w.heap.size≤b6:=by have:=hA2.size; omega
 have qg:w.heap.size≤g:=by have:=hA3.size; omega
 have hA4w:At w ([(g,153,[.slice none 0 0])]++[(b6,25,dc (List.replicate 32 0)),(b5,27,(.int .i64 C::dc Y)),(b4,25,dc X)]) w4:=hA3.thenNew hA4 (eQ hg)
 have hW4:Wr w g [(b6,25,dc (List.replicate 32 0)),(b5,27,(.int .i64 C::dc Y)),(b4,25,dc X)] [] (.slice none 0 0) [] w4:=⟨Own.nil w 5 1,by rw [List.append_nil]; exact hA4w⟩
 clear hA4
 refine vR hF<|vX O<|vE hK2<|wT fun K3 hK3=>vX O<|vV O (yf 0 O Uf O QY O)<|vV O (df O hA4w O 2 O O Bq)<|vV O (fP O TP Ue O (DX C)) fun a hF=>?_
 refine au O (fun K hK=>ax hF O ae PR rfl rfl ?_)
 with_reducible refine (yD w w4 g [(b6,25,dc (List.replicate 32 0)),(b5,27,(.int .i64 C::dc Y)),(b4,25,dc X)] [] _ [] (c64 C) (Sl C) _ O hW4 ae).mono ?_
 rintro e' w5 ⟨rfl,v5,X5,hW5⟩
 refine ⟨_,rfl,fun a hF=>hK _ _ ?_⟩
 replace hW5:Wr w g [(b6,25,dc (List.replicate 32 0)),(b5,27,(.int .i64 C::dc Y)),(b4,25,dc X)] X5 v5 (be 8 (c64 C)) w5:=hW5
 refine az<|hK3 _ _ ?_
 apply wp_seq_k; intro K4 hK4
 refine ak 7 [3,6,7,8] [0,1,2,4,5,3,6,7,8] (fun _=>True) af af (trivial) ?_
 refine pR hF<|pX O O<|pW O O (fun _=>dG O Tz kX rfl (.none 0) (.none 32) ag ag dU)<|pX O O<|pW O O (fun _=>yf 1 O Uf O oV rfl)<|pW O O (fun _=>dG O Tz kX rfl (.none 0) (.none 32) ag ag dU) fun a hF=>?_
 refine bM O O O (fun K hK=>ax hF O ae PQ rfl rfl ?_)
 with_reducible refine (Ry w _ g [(b6,25,dc (List.replicate 32 0)),(b5,27,(.int .i64 C::dc Y)),(b4,25,dc X)] X5 v5 _ hW5.drew (by simp [be])).mono ?_
 rintro e' w6 ⟨v6,Y6,rfl,hO6,hA6⟩
 refine ⟨_,rfl,fun a hF=>hK _ _ (fun _=>trivial) ?_⟩
 obtain ⟨_,A6,c6,rfl,hc6,hB6⟩:=uf hO6
 have hO6n:=hO6.new
 have hX5:=hW5.1.new
 refine bM O O O (fun K hK=>Ju hF O ae rfl hA6 O O O (Bl _ _ _ _ _ _ _ _ _) (fun b7 w7 a hb7 hF hA7=>hK _ _ (fun _=>trivial) ?_))
 have hnr:∀ r∈((b7,70,[.slice (some ⟨b4,0,none⟩) 32 32,.slice A6 (be 8 (c64 C)).length c6,.slice (some ⟨b5,1,none⟩) 32 32]):Row)::([(g,153,[v5])]++[(b6,25,dc (List.replicate 32 0)),(b5,27,(.int .i64 C::dc Y)),(b4,25,dc X)]++X5++Y6),w.heap.size≤r.1:=cZ (by have:=hA6.size; omega) (vO (vO (vO (eQ qg) (cZ q6 (cZ q5 (eQ hb4)))) hX5) hO6n)
 have hP:Pieces w7 (some ⟨b7,0,none⟩) [(some ⟨b4,0,none⟩,32,X),(A6,c6,be 8 (c64 C)),(some ⟨b5,1,none⟩,32,Y)]:=Pieces.row hA7 (k:=0) (by rw [List.map_cons,List.map_cons,List.map_cons,hX,hY]; rfl) (fun A' c' l' h=>by
  rcases List.mem_cons.1 h with h | h
  ·obtain ⟨rfl,rfl,rfl⟩:A'=some ⟨b4,0,none⟩∧c'=32∧l'=X:=by simpa using h
   exact ⟨ ag,tC hX hA7 (k:=4) rfl⟩
  ·rcases List.mem_cons.1 h with h | h
   ·obtain ⟨rfl,rfl,rfl⟩:A'=A6∧c'=c6∧l'=be 8 (c64 C):=by simpa using h
    exact ⟨hc6,hB6 ((b7,70,[.slice (some ⟨b4,0,none⟩) 32 32,.slice A' (be 8 (c64 C)).length c',.slice (some ⟨b5,1,none⟩) 32 32])::([(g,153,[v5])]++[(b6,25,dc (List.replicate 32 0)),(b5,27,(.int .i64 C::dc Y)),(b4,25,dc X)]++X5)) w7 hA7⟩
   ·obtain ⟨rfl,rfl,rfl⟩:A'=some ⟨b5,1,none⟩∧c'=32∧l'=Y:=by simpa using h
    exact ⟨ ag,Bts.row hA7 (k:=3) rfl (by rw [List.drop_succ_cons,List.drop_zero]; exact TJ (by rw [aj]; exact TG _))⟩)
 refine bM O O O (fun K hK=>ax hF O ae PZ rfl rfl ?_)
 with_reducible refine (E5 w7 width 3 3 O (some ⟨b7,0,none⟩) _ 3 3 O hP (by rw [oJ,List.length_append,List.length_append,hX,hY]; simp [be]) ae (hT.at_ hA7 (rU hpos hnr))).mono ?_
 rintro e' w8 ⟨rfl,hc8⟩
 refine ⟨_,rfl,fun a hF=>hK _ _ (fun h=>absurd h ae) ?_⟩
 have hA8:=hA7.then0 hc8
 clear hc8
 rw [oJ] at hF
 refine bM O O O (fun K hK=>eu hF O O hA8 O O 2 O (yx (ja _ _ _)) (bz _) yz (fun w9 hA9=>hK _ _ (fun h=>absurd h ae) ?_))
 refine aB ?_
 refine hK4 _ _ ?_
 apply wp_ret
 refine jq hF Tryz.results61 hA9 O 2 O (jK (ja _ _ _)) ?_
 exact ⟨rfl,hA9.clear (cZ (hnr _ (TF ..)) (cZ qg (cZ (show w.heap.size≤b6 from q6) (cZ q5 (cZ hb4 (vO hX5 hO6n))))))⟩
end Go.Proofs.YtpomngkcfbnjoaaGreatDoor
