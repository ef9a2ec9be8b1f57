/- EventOrders walked. -/
import Derived.Test.YtepbmdlgdaedpaaGreatDoorTbW
import Derived.Test.YtepbmdlgdaedpaaGreatDoorSp
import Derived.Test.YtepbmdlgdaedpaaGreatDoorSw
import Derived.Test.YtepbmdlgdaedpaaGreatDoorLawApart
import Derived.Test.YtepbmdlgdaedpaaGreatDoorLawTables
import Derived.Test.YtepbmdlgdaedpaaGreatDoorOpenR
import Derived.Test.YtepbmdlgdaedpaaGreatDoorEv8
import Derived.Test.YtepbmdlgdaedpaaGreatDoorEv
import Derived.Test.YtepbmdlgdaedpaaGreatDoorW1
/- EventOrders walked. -/
namespace Go.Proofs.YtepbmdlgdaedpaaGreatDoor
open Go.RowKit Go.Dk
theorem iI:isRow Tryz.prog 49 33=true:=af
theorem zh:(Tryz.prog.info? 49).map (·.size)=some 33:=af
theorem ou:aO Tryz.prog 15:=⟨_,Tryz.func15,af,af⟩
theorem AZ:aO Tryz.prog 19:=⟨_,Tryz.func19,af,af⟩
theorem jS:aO Tryz.prog 23:=⟨_,Tryz.func23,af,af⟩
theorem yM:bY Tryz.prog 49 (.agg ([.int .i64 0,.int .u8 0,.int .u8 0,.int .u8 0,.int .u8 0,.int .u8 0,.int .u8 0,.int .u8 0,.int .u8 0,.int .u8 0,.int .u8 0,.int .u8 0,.int .u8 0,.int .u8 0,.int .u8 0,.int .u8 0,.int .u8 0,.int .u8 0,.int .u8 0,.int .u8 0,.int .u8 0,.int .u8 0,.int .u8 0,.int .u8 0,.int .u8 0,.int .u8 0,.int .u8 0,.int .u8 0,.int .u8 0,.int .u8 0,.int .u8 0,.int .u8 0,.int .u8 0]:List Value).toArray):=by unfold bY; kernel_rfl
theorem AQ {w0:World} {G:List Seg} {A:Option Addr} {ds:List (List UInt8)} (h:Rc w0 G A (dO ds)) (hds:∀ d∈ds,d.length=32) (m:Nat):Rc w0 G A (dO (ds.take m)):=by
 have h9:=h.take (dO (ds.take m)).length
 have e:dO ds=dO (ds.take m)++dO (ds.drop m):=by
  rw [kw,kw,kw,← jv,List.take_append_drop]
 rw [e,List.take_left' rfl] at h9
 exact h9
theorem AU {ds:List (List UInt8)} (hds:∀ d∈ds,d.length=32):(dO ds).drop (1*32)=dO (ds.drop 1):=by
 cases ds with
 | nil=>rfl
 | cons d ds =>
  show (dc d++dO ds).drop (1*32)=dO ds
  exact List.drop_left' (by rw [aQ,hds d (HY ..)])
theorem Dn {α:Type} {P Q:List α} {u x:α} {m:Nat} (h:P.length=m):(P++u::Q)[m]? = some u∧(P++u::Q).set m x=P++x::Q:=by
 subst h
 refine ⟨?_,?_⟩
 ·rw [List.getElem?_append_right (Ib _),Nat.sub_self]
  rfl
 ·rw [List.set_append_right _ _ (Ib _),Nat.sub_self]
  rfl
theorem DV {B Z:List Value} {ds:List (List UInt8)} {k:Nat} {d:List UInt8} (hds:∀ d∈ds,d.length=32) (hk:ds[k]? = some d) (b:UInt8):(B++dO ds++Z)[B.length+k*32]? = some (.int .u8 ((bAt d 0).toNat:Int))∧(B++dO ds++Z).set (B.length+k*32) (.int .u8 (b.toNat:Int))=B++dO (ds.set k (d.set 0 b))++Z:=by
 obtain ⟨hkl,he⟩:=List.getElem?_eq_some_iff.1 hk
 have hd:=hds d (List.mem_of_getElem? hk)
 cases d with
 | nil=>cases hd
 | cons d0 d' =>
  have e1:ds=ds.take k++(d0::d')::ds.drop (k+1):=by
   rw [← he,← List.drop_eq_getElem_cons hkl,List.take_append_drop]
  have hl:(B++dO (ds.take k)).length=B.length+k*32:=by
   rw [List.length_append,jQ (fun x hx=>hds x (List.mem_of_mem_take hx)),List.length_take,Nat.min_eq_left ag]
  have e2:∀ x:UInt8,B++dO (ds.take k++(x::d')::ds.drop (k+1))++Z=(B++dO (ds.take k))++(.int .u8 (x.toNat:Int))::(dc d'++dO (ds.drop (k+1))++Z):=fun x=>by
   rw [kw,jv,uq,show dc (x::d')=(.int .u8 (x.toNat:Int))::dc d' from rfl]
   simp only [List.append_assoc,List.cons_append]
   rfl
  have e3:ds.set k ((d0::d').set 0 b)=ds.take k++(b::d')::ds.drop (k+1):=by
   rw [List.set_eq_take_append_cons_drop,if_pos hkl]
   rfl
  rw [e3,e2 b]
  have e4:B++dO ds++Z=(B++dO (ds.take k))++(.int .u8 (d0.toNat:Int))::(dc d'++dO (ds.drop (k+1))++Z):=by
   conv=>lhs; rw [e1]
   exact e2 d0
  rw [e4]
  obtain ⟨h1,h2⟩:=Dn (P:=B++dO (ds.take k)) (Q:=dc d'++dO (ds.drop (k+1))++Z) (u:=(.int .u8 (d0.toNat:Int))) (x:=(.int .u8 (b.toNat:Int))) hl
  exact ⟨h1,h2⟩
theorem DD {d:List UInt8} (h:0<d.length):¬ some d=some (d.set 0 (tb (bAt d 0))):=fun he=>by
 injection he with he
 cases d with
 | nil=>cases h
 | cons b d =>
  have h1:b=tb b:=(List.cons.inj he).1
  exact BK b h1
set_option maxRecDepth 100000 in
set_option maxHeartbeats 8000000 in
theorem uQ (w0:World) (n:Int) (ch:List UInt8) (clk:Int) (A1:Option Addr) (ns0:List (List UInt8)) (c1:Nat) (A2:Option Addr) (ds0:List (List UInt8)) (c2:Nat) (at_:Int) (hT:mF w0) (hch:ch.length=32) (h10:Rc w0 [] A1 (ns0.map ak)) (h20:Rc w0 [] A2 (dO ds0)) (hds0:∀ d∈ds0,d.length=32) (hz1:ns0.length<8796093022000) (hz2:ds0.length*32≤140737488351232) (hc1:ns0.length≤c1) (hc2:ds0.length≤c2):Calls Tryz.prog 8 #[.agg (.int .i64 n::dc ch:List Value).toArray,.int .i64 clk,.slice A1 ns0.length c1,.slice A2 ds0.length c2,.int .i64 at_] w0 fun e W'=>e= .returned (.bool true)∧At w0 [] W':=by
 have hA:Hp w0 [] w0:=Hp.start w0
 refine aP Tryz.func8 O Tryz.ntmps8 ai (fun a hF=>?_)
 refine wp_seq_k fun K1 hK1=>wp_region_lit ?_
 refine aB O (fun K hK=>eU (cs:= .int .i64 n::dc ch) hF O ae rfl hA O (fun b1 w2 a hb1 hF hA3=>hK _ _ ?_))
 refine vR hF<|vX O<|vE hK1<|wQ fun K2 hK2=>wQ fun K3 hK3 a hF=>?_
 obtain ⟨ns,hns⟩:∃ q,q=ns0.take ds0.length:=⟨_,rfl⟩
 obtain ⟨ds,hdq⟩:∃ q,q=ds0.take ns0.length:=⟨_,rfl⟩
 have hnl:ns.length=min ds0.length ns0.length:=by rw [hns,List.length_take]
 have hdl:ds.length=min ns0.length ds0.length:=by rw [hdq,List.length_take]
 have hnd:ns.length=ds.length:=by omega
 have h1:Rc w0 [] A1 (ns.map ak):=by
  have h9:=h10.take ds0.length
  rwa [← List.map_take,← hns] at h9
 have hds:∀ d∈ds,d.length=32:=fun d hd=>hds0 d (List.mem_of_mem_take (by rw [hdq] at hd; exact hd))
 have h2:Rc w0 [] A2 (dO ds):=by rw [hdq]; exact AQ h20 hds0 _
 have hnz:ns.length<8796093022000:=by omega
 refine wp_region_lit ?_
 refine vR hF<|vX O<|vV O (aU O Ij O O)<|vX O<|vV O (aU O Ia O O)<|vV O (ax O O O O O)<|vE hK3 fun a hF=>?_
 have hJ:∀ (a:Act) (x:World),Fr 175 [(1,.int .i64 clk),(2,.slice A1 ns0.length c1),(3,.slice A2 ds.length c2),(4,.int .i64 at_),(5,.pointer (some ⟨b1,0,none⟩))] a→Hp w0 ([row b1 49 (.int .i64 n::dc ch)]::[]) x→K2 a x:=by
  clear hF
  intro a x hF hA
  refine hK2 _ _ ?_
  refine wS hF fun K4 hK4=>vX O<|vX O<|vV O (aU O Ij O O)<|vV O (gU O Ia qi O (.none 0) (.some rfl rfl) (Hy _) ag (show Value.slice (sub A1 0 c1 1) (ds.length-0) (c1-0)= .slice A1 ns.length c1 by rw [hnd]; exact kN)) fun a hF=>?_
  refine vR hF<|vX O<|vE hK4<|wT fun K5 hK5=>vV O (bW (new:=(.int .i64 n::dc ch)) O hA.q O 0 O iI (by rw [fA hch]; exact Ib _) (by rw [List.drop_zero]; exact H6 (by rw [fA hch]; exact Ib _))) fun a hF=>?_
  refine vR hF<|vX O<|vX O<|vX O fun a hF=>?_
  refine aB O (fun K hK=>ay hF O ae Eo rfl rfl ?_)
  with_reducible refine (jd n ch clk A1 ns c1 A2 ds c2 _ hT hch h1 h2 hds (List.nil_subset _) hA).mono ?_
  rintro e' w4 ⟨vE1,ZE1,X1,rfl,hB1,hZE1,hA5⟩
  refine ⟨_,rfl,fun a hF=>hK _ _ ?_⟩
  replace hA5:Hp w0 (ZE1::[row b1 49 (.int .i64 n::dc ch)]::[]) w4:=hA5
  obtain ⟨k,hk⟩:∃ k,k=tbE ns ds.length:=⟨_,rfl⟩
  rw [← hk] at hF
  obtain ⟨_,AE1,cE1,rfl,hcE1,hRE1⟩:=hZE1.rd (w0:=w0) (R:=[ZE1]) (HY ..)
  refine vR hF<|vX O<|vV O (aJ (v:= .slice AE1 X1.length cE1) rfl rfl rfl)<|vV O (aJ (v:= .int .i64 ((k:Nat):Int)) O O O)<|vX O<|vX O<|vE hK5<|wT fun K6 hK6=>vX O<|vE hK6<|wT fun K7 hK7=>vX O<|vE hK7<|wQ fun K8 hK8=>wQ fun K9 hK9 a hF=>?_
  have hXl:=hB1.len hch hds
  refine wp_region_lit ?_
  refine vR hF<|vX O<|vV O (aU O Ia O O)<|vV O (dL O O O (show IntKind.i64.wrap (((ns.length:Nat):Int)-1)=((ns.length:Nat):Int)-1-((0:Nat):Int) by rw [Hz _ ag]; omega)) fun a hF=>?_
  refine vR hF<|vX O<|vE hK9<|wBk fun a hF=>?_
  have hA6:Hp w0 (([]:Seg)::([]:Seg)::ZE1::[row b1 49 (.int .i64 n::dc ch)]::[]) w4:=Hp.nil (Hp.nil hA5)
  refine bM (G:=Nat) (fun j a x=>∃ (vT:Value) (qvS0:Value) (XT:Seg) (XS:Seg),j≤ns.length∧Buf 9 1 XT vT j ((jE ns j).map ak)∧Buf 29 32 XS qvS0 j (dO (jE ds j))∧Fr 175 [(13,vT),(14,qvS0),(15,.int .i64 (((ns.length:Nat):Int)-1-((j:Nat):Int))),(1,.int .i64 clk),(2,.slice A1 ns.length c1),(3,.slice A2 ds.length c2),(4,.int .i64 at_),(5,.pointer (some ⟨b1,0,none⟩)),(11,.slice AE1 X1.length cE1),(12,.int .i64 ((k:Nat):Int))] a∧Hp w0 (XT::XS::ZE1::[row b1 49 (.int .i64 n::dc ch)]::[]) x) (fun j=>ns.length-j) 0 (⟨_,_,[],[],Hy _,(Buf.nil _ _),(Buf.nil _ _),hF.keep [13,14,15,1,2,3,4,5,11,12] rfl,hA6⟩) ?_
  clear hF
  rintro j a w8 ⟨vT,qvS0,XT,XS,hj,hBT,hBS,hF,hA7⟩
  apply wp_seq_k; intro K10 hK10
  refine wS hF fun K11 hK11=>vX O<|vV O (ax O O O O O)<|vE hK11 fun a hF=>?_
  by_cases hlt:j<ns.length
  ·refine az hF O (sU ag) ?_
   obtain ⟨k',hk'⟩:∃ k':Nat,k'=ns.length-1-j:=⟨_,rfl⟩
   have hkl:k'<ns.length:=by omega
   have hkd:k'<ds.length:=by omega
   rw [show ((ns.length:Nat):Int)-1-((j:Nat):Int)=((k':Nat):Int) by omega] at hF
   obtain ⟨q,hpq⟩:∃ q,ns[k']? = some q:=⟨_,List.getElem?_eq_getElem hkl⟩
   obtain ⟨d,hd⟩:∃ d,ds[k']? = some d:=⟨_,List.getElem?_eq_getElem hkd⟩
   have hd32:=hds d (List.mem_of_getElem? hd)
   obtain ⟨bq,oq,hsq,hcq⟩:=h1.ne (i:=k') (by rw [List.length_map]; exact hkl)
   obtain ⟨hatd,hled⟩:=AV hds hd
   obtain ⟨bd,od,hsD,hcd⟩:=h2.ne (i:=k'*32) ag
   rw [hsq,hsD] at hF
   have hqs:jE ns (j+1)=jE ns j++[q]:=pU hlt (by rw [← hk']; exact hpq)
   have hqd:jE ds (j+1)=jE ds j++[d]:=pU ag (by rw [← hnd,← hk']; exact hd)
   apply wp_skip
   refine hK10 _ _ ?_
   apply wp_seq_k; intro K12 hK12
   apply wp_block
   refine wS hF fun K13 hK13=>vX O<|vX O<|vX O<|vV O (bD O Ia qi O O k' rfl hkl (ad2 _ _ _))<|vV O (dG (u:=ak q) rfl (Hq.sub hA7.q (List.nil_subset _)) O hcq k' (by rw [List.length_map]; exact hkl) rfl (by rw [List.getElem?_map,hpq]; rfl) qE) fun a hF=>?_
   refine aB O (fun K hK=>uT hF O ae rfl hA7 O (uV q) (fun b9 w10 a hb9 hF hA11=>hK _ _ ?_))
   refine aB O (fun K hK=>dh hF O ae rfl hA11 1 O hBT Ia nU rfl rfl (Rc.srcC (W:=[ak q]) (m:=1) (size:=1) (R:=[row b9 9 [ak q]]::XT::XS::ZE1::[row b1 49 (.int .i64 n::dc ch)]::[]) (Rc.ofRow (i:=0) (off:=0) rfl rfl) hA11.q Ia ae rfl (by simp [Value.oneCell'])) ag ae (fun vT2 XT2 w12 a hBT2 hF hA13=>hK _ _ ?_))
   replace hA13:Hp w0 ([row b9 9 [ak q]]::XT2::XS::ZE1::[row b1 49 (.int .i64 n::dc ch)]::[]) w12:=hA13
   replace hBT2:Buf 9 1 XT2 vT2 (j+1) ((jE ns (j+1)).map ak):=by rw [hqs,List.map_append]; exact hBT2
   refine vR hF<|vX O<|vE hK13 fun a hF=>?_
   refine wp_region_lit ?_
   refine vR hF<|vX O<|vX O<|vX O<|vV O (bD O Ij wo O O k' rfl hkd rfl)<|vV O (iH (new:=dc d) rfl (Hq.sub hA13.q (List.nil_subset _)) O hcd (k'*32) hled rfl hatd CS) fun a hF=>?_
   refine aB O (fun K hK=>lW (qs := #[(0,.agg (dc d).toArray)]) (cells:=(dc d).toArray) hF O ae rfl hA13 O (og hd32) (fun b14 w15 a hb14 hF hA16=>hK _ _ ?_))
   refine aB O (fun K hK=>dh hF O ae rfl hA16 3 O hBS Ij zo rfl rfl (Rc.srcC (W:=dc d) (m:=1) (size:=32) (R:=[row b14 29 (dc d)]::[row b9 9 [ak q]]::XT2::XS::ZE1::[row b1 49 (.int .i64 n::dc ch)]::[]) (Rc.ofRow (i:=0) (off:=0) rfl (by rw [List.drop_zero]; exact List.take_length ..)) hA16.q Ij ae (by rw [aQ,hd32]) (jR d)) ag ae (fun vS2 XS2 w17 a hBS2 hF hA18=>hK _ _ ?_))
   replace hA18:Hp w0 ([row b14 29 (dc d)]::[row b9 9 [ak q]]::XT2::XS2::ZE1::[row b1 49 (.int .i64 n::dc ch)]::[]) w17:=hA18
   replace hBS2:Buf 29 32 XS2 vS2 (j+1) (dO (jE ds (j+1))):=by rw [hqd,kw,jv,← kw,show cel dc [d]=dc d by rw [uq,Eu,List.append_nil]]; exact hBS2
   refine vR hF<|vX O fun a hF=>aN<|hK12 _ _ ?_
   refine wp_region_lit ?_
   refine vR hF<|vX O<|vV O (dL O O O (show IntKind.i64.wrap (((k':Nat):Int)-1)=((ns.length:Nat):Int)-1-((j+1:Nat):Int) by rw [Hz _ ag]; omega)) fun a hF=>?_
   refine vR hF<|vX O fun a hF=>?_
   refine aN ?_
   rw [← hsq,← hsD] at hF
   have hA19:Hp w0 (XT2::XS2::ZE1::[row b1 49 (.int .i64 n::dc ch)]::[]) w17:=hpS 6 [2,3,4,5] [0,1] hA18 rfl
   exact ⟨j+1,ag,_,_,_,_,ag,hBT2,hBS2,hF.keep [13,14,15,1,2,3,4,5,11,12] rfl,hA19⟩
  ·refine au hF O (sV ag) ?_
   obtain rfl:j=ns.length:=by omega
   obtain ⟨tn,htn⟩:∃ q,q=ns.reverse:=⟨_,rfl⟩
   obtain ⟨sd,hsd_⟩:∃ q,q=ds.reverse:=⟨_,rfl⟩
   have htl:tn.length=ns.length:=by rw [htn,List.length_reverse]
   have hsl:sd.length=ds.length:=by rw [hsd_,List.length_reverse]
   have hsd:∀ d∈sd,d.length=32:=fun d hd=>hds d (List.mem_reverse.1 (by rw [hsd_] at hd; exact hd))
   have hk2:tbE tn sd.length=k:=by rw [htn,hsd_,vZ,List.length_reverse,hk]
   rw [uu,← htn,← htl] at hBT
   rw [hnd,uu,← hsd_,← hsl] at hBS
   obtain ⟨AT,cT,rfl,hcT,hRT⟩:=hBT.rc (w0:=w0) (R:=[XT]) (HY ..)
   obtain ⟨AS,cS,rfl,hcS,hRS⟩:=hBS.rc (w0:=w0) (R:=[XS]) (HY ..)
   have hRT2:Rc w0 [XT,XS] AT (tn.map ak):=hRT.mono (List.cons_subset.2 ⟨by simp,List.nil_subset _⟩)
   have hRS2:Rc w0 [XT,XS] AS (dO sd):=hRS.mono (List.cons_subset.2 ⟨by simp,List.nil_subset _⟩)
   apply wp_exit
   refine hK8 _ _ ?_
   refine wS hF fun K14 hK14=>vV O (bW (new:=(.int .i64 n::dc ch)) O hA7.q O 3 O iI (by rw [fA hch]; exact Ib _) (by rw [List.drop_zero]; exact H6 (by rw [fA hch]; exact Ib _))) fun a hF=>?_
   refine vR hF<|vX O<|vX O<|vX O fun a hF=>?_
   refine aB O (fun K hK=>ay hF O ae Eo rfl rfl ?_)
   with_reducible refine (jd n ch clk AT tn cT AS sd cS _ hT hch hRT2 hRS2 hsd (List.cons_subset.2 ⟨((HY ..)),List.cons_subset.2 ⟨(H5 _ ((HY ..))),List.nil_subset _⟩⟩) hA7).mono ?_
   rintro e' w20 ⟨vE2,ZE2,X2,rfl,hB2,hZE2,hA21⟩
   refine ⟨_,rfl,fun a hF=>hK _ _ ?_⟩
   replace hA21:Hp w0 (ZE2::XT::XS::ZE1::[row b1 49 (.int .i64 n::dc ch)]::[]) w20:=hA21
   rw [hk2] at hF
   obtain rfl:X1=X2:=hB1.uniq (TbB.rev hnd (by rw [← htn,← hsd_]; exact hB2))
   obtain ⟨_,AE2,cE2,rfl,hcE2,hRE2⟩:=hZE2.rd (w0:=w0) (R:=[ZE2]) (HY ..)
   refine vR hF<|vX O<|vV O (aJ (v:= .slice AE2 X1.length cE2) rfl rfl rfl)<|vV O (aJ (v:= .int .i64 ((k:Nat):Int)) O O O)<|vX O<|vX O<|vE hK14<|wQ fun K15 hK15=>wT fun K16 hK16=>vX O<|vX O<|vV O (ax O O O O (dS rfl))<|vX O fun a hF=>?_
   refine aH hF O O O O (aj rfl) ae _ (aS O O) (fun a hF=>?_)
   refine aH hF O O O O (aj rfl) ae _ (aS O O) (fun a hF=>?_)
   refine eF hF O O O (aj rfl) (fun K hK=>ay hF O ae jS rfl rfl ?_)
   with_reducible refine (jO _ (hRE1.mono (List.cons_subset.2 ⟨(H5 _ (H5 _ (H5 _ ((HY ..))))),List.nil_subset _⟩)) (hRE2.mono (List.cons_subset.2 ⟨((HY ..)),List.nil_subset _⟩)) ag hA21).mono ?_
   rintro e' w22 ⟨rfl,hA23⟩
   refine ⟨_,rfl,fun a hF=>hK _ _ ?_⟩
   replace hA23:Hp w0 (ZE2::XT::XS::ZE1::[row b1 49 (.int .i64 n::dc ch)]::[]) w22:=hA23
   rw [decide_eq_true rfl] at hF
   refine aH hF O O O O (aj rfl) ae _ (dM O O O) (fun a hF=>?_)
   refine vR hF<|vV O (aV O O O O)<|vE hK16<|vF1 O<|wKp hK15<|wQ fun K17 hK17=>wT fun K18 hK18=>vX O<|vV O (ax O O O O O)<|vE hK18 fun a hF=>?_
   by_cases hk0:k=0
   ·refine au hF O (dS ag) ?_
    subst hk0
    have h0:tbE ns ds.length=0:=hk.symm
    obtain ⟨rX,hrX⟩:=hB1.two h0
    have hX2:2≤X1.length:=by rw [hrX]; simp only [List.length_cons]; omega
    obtain ⟨bx,ox,hAx,hcx⟩:=hRE1.ne (i:=0) (by rw [aQ]; omega)
    have hx0:(dc X1)[0]? = some (.int .u8 0):=by rw [hrX]; rfl
    have hx1:(dc X1)[1]? = some (.int .u8 0):=by rw [hrX]; rfl
    have hFn:=hF
    subst hAx
    have hREx:=hRE1
    have hF:=hFn
    clear hFn
    apply wp_skip
    refine hK17 _ _ ?_
    apply wp_seq_k; intro K19 hK19
    refine wS hF fun K20 hK20=>vX O<|vV O (aU O Hw O O)<|vV O (ax O O O O (dU ag))<|vX O fun a hF=>?_
    refine aH hF O O O O (aj rfl) ae _ (aS O O) (fun a hF=>?_)
    refine aH hF O O O O (aj rfl) ae _ (bD O Hw qj O O 0 O ag rfl) (fun a hF=>?_)
    refine aH hF O O O O (aj rfl) ae _ (dG (u:= .int .u8 0) rfl (Hq.sub hA23.q (List.cons_subset.2 ⟨(H5 _ (H5 _ (H5 _ ((HY ..))))),List.nil_subset _⟩)) O hcx 0 (by rw [aQ]; omega) rfl hx0 qF) (fun a hF=>?_)
    refine aH hF O O O O (aj rfl) ae _ (ax O O O O (dS rfl)) (fun a hF=>?_)
    refine vR hF<|vV O (aV O O O O)<|vX O fun a hF=>?_
    refine aH hF O O O O (aj rfl) ae _ (aS O O) (fun a hF=>?_)
    refine aH hF O O O O (aj rfl) ae _ (bD O Hw qj O O 1 O ag rfl) (fun a hF=>?_)
    refine aH hF O O O O (aj rfl) ae _ (dG (u:= .int .u8 0) rfl (Hq.sub hA23.q (List.cons_subset.2 ⟨(H5 _ (H5 _ (H5 _ ((HY ..))))),List.nil_subset _⟩)) O hcx 1 (by rw [aQ]; omega) rfl hx1 qF) (fun a hF=>?_)
    refine aH hF O O O O (aj rfl) ae _ (ax O O O O (dS rfl)) (fun a hF=>?_)
    refine vR hF<|vV O (aV O O O O)<|vE hK20<|vF1 O<|wKp hK19<|wT fun K21 hK21=>vV O (bW (new:=(.int .i64 n::dc ch)) O hA23.q O 4 O iI (by rw [fA hch]; exact Ib _) (by rw [List.drop_zero]; exact H6 (by rw [fA hch]; exact Ib _))) fun a hF=>?_
    refine aB O (fun K hK=>cu hF O ae rfl hA23 (yM) (fun b24 w25 a hb24 hF hA26=>hK _ _ ?_))
    refine aB O (fun K hK=>aY (new:=(.int .i64 n::dc ch)) hF O O hA26 O O 0 O (by rw [fA hch]; rfl) (FD _ _) zh (fun w27 hA28=>hK _ _ ?_))
    replace hA28:Hp w0 ([row b24 49 (.int .i64 n::dc ch)]::ZE2::XT::XS::ZE1::[row b1 49 (.int .i64 n::dc ch)]::[]) w27:=hA28
    refine aN<|hK21 _ _ ?_
    refine wS hF fun K22 hK22=>vV O (yf 0 O Io O gu O)<|vV O (aX (u:= .int .i64 n) rfl hA28.q O 5 O O jK)<|vV O (bQ O O O O)<|vV O (yf 0 O Io O gu O) fun a hF=>?_
    refine aB O (fun K hK=>bH hF O O hA28 O O 0 O (by rw [fA hch]; decide) rfl gu (fun w29 hA30=>hK _ _ ?_))
    replace hA30:Hp w0 ([row b24 49 (.int .i64 (IntKind.i64.wrap (n+1))::dc ch)]::ZE2::XT::XS::ZE1::[row b1 49 (.int .i64 n::dc ch)]::[]) w29:=hA30
    refine aN<|hK22 _ _ ?_
    refine wS hF fun K23 hK23=>vV O (bW (new:=(.int .i64 (IntKind.i64.wrap (n+1))::dc ch)) O hA30.q O 0 O iI (by rw [fA hch]; exact Ib _) (by rw [List.drop_zero]; exact H6 (by rw [fA hch]; exact Ib _))) fun a hF=>?_
    refine vR hF<|vX O<|vX O<|vX O fun a hF=>?_
    refine aB O (fun K hK=>ay hF O ae Eo rfl rfl ?_)
    with_reducible refine (jd (IntKind.i64.wrap (n+1)) ch clk A1 ns c1 A2 ds c2 _ hT hch h1 h2 hds (List.nil_subset _) hA30).mono ?_
    rintro e' w31 ⟨vE3,ZE3,X3,rfl,hB3,hZE3,hA32⟩
    refine ⟨_,rfl,fun a hF=>hK _ _ ?_⟩
    replace hA32:Hp w0 (ZE3::[row b24 49 (.int .i64 (IntKind.i64.wrap (n+1))::dc ch)]::ZE2::XT::XS::ZE1::[row b1 49 (.int .i64 n::dc ch)]::[]) w31:=hA32
    obtain ⟨_,AE3,cE3,rfl,hcE3,hRE3⟩:=hZE3.rd (w0:=w0) (R:=[ZE3]) (HY ..)
    refine vR hF<|vX O<|vV O (aJ (v:= .slice AE3 X3.length cE3) rfl rfl rfl)<|vV O (aJ (v:= .int .i64 ((tbE ns ds.length:Nat):Int)) O O O)<|vX O<|vE hK23<|wT fun K24 hK24=>vV O (bW (new:=(.int .i64 n::dc ch)) O hA32.q O 6 O iI (by rw [fA hch]; exact Ib _) (by rw [List.drop_zero]; exact H6 (by rw [fA hch]; exact Ib _))) fun a hF=>?_
    refine vR hF<|vX O<|vV O (Ez O O O O)<|vX O<|vX O fun a hF=>?_
    refine aB O (fun K hK=>ay hF O ae Eo rfl rfl ?_)
    with_reducible refine (jd n ch (bits .xor .i64 clk 1) A1 ns c1 A2 ds c2 _ hT hch h1 h2 hds (List.nil_subset _) hA32).mono ?_
    rintro e' w33 ⟨vE4,ZE4,X4,rfl,hB4,hZE4,hA34⟩
    refine ⟨_,rfl,fun a hF=>hK _ _ ?_⟩
    replace hA34:Hp w0 (ZE4::ZE3::[row b24 49 (.int .i64 (IntKind.i64.wrap (n+1))::dc ch)]::ZE2::XT::XS::ZE1::[row b1 49 (.int .i64 n::dc ch)]::[]) w33:=hA34
    obtain ⟨_,AE4,cE4,rfl,hcE4,hRE4⟩:=hZE4.rd (w0:=w0) (R:=[ZE4]) (HY ..)
    refine vR hF<|vX O<|vV O (aJ (v:= .slice AE4 X4.length cE4) rfl rfl rfl)<|vV O (aJ (v:= .int .i64 ((tbE ns ds.length:Nat):Int)) O O O)<|vX O<|vX O<|vE hK24<|wQ fun K25 hK25=>wQ fun K26 hK26 a hF=>?_
    have hne3:¬ X1=X3:=hB1.ne hch h0 hB3 (.inl yY)
    have hne4:¬ X1=X4:=hB1.ne hch h0 hB4 (.inr yX)
    refine wp_region_lit ?_
    refine vR hF<|vX O<|vX O fun a hF=>?_
    refine aB O (fun K hK=>ay hF O ae jS rfl rfl ?_)
    with_reducible refine (jO _ (hREx.mono (List.cons_subset.2 ⟨(H5 _ (H5 _ (H5 _ (H5 _ (H5 _ (H5 _ ((HY ..)))))))),List.nil_subset _⟩)) (hRE3.mono (List.cons_subset.2 ⟨(H5 _ ((HY ..))),List.nil_subset _⟩)) ag hA34).mono ?_
    rintro e' w35 ⟨rfl,hA36⟩
    refine ⟨_,rfl,fun a hF=>hK _ _ ?_⟩
    replace hA36:Hp w0 (ZE4::ZE3::[row b24 49 (.int .i64 (IntKind.i64.wrap (n+1))::dc ch)]::ZE2::XT::XS::ZE1::[row b1 49 (.int .i64 n::dc ch)]::[]) w35:=hA36
    rw [decide_eq_false hne3] at hF
    refine vR hF<|vX O fun a hF=>?_
    refine aH hF O O O O (aj rfl) ae _ (aS O O) (fun a hF=>?_)
    refine aH hF O O O O (aj rfl) ae _ (aS O O) (fun a hF=>?_)
    refine eF hF O O O (aj rfl) (fun K hK=>ay hF O ae jS rfl rfl ?_)
    with_reducible refine (jO _ (hREx.mono (List.cons_subset.2 ⟨(H5 _ (H5 _ (H5 _ (H5 _ (H5 _ (H5 _ ((HY ..)))))))),List.nil_subset _⟩)) (hRE4.mono (List.cons_subset.2 ⟨((HY ..)),List.nil_subset _⟩)) ag hA36).mono ?_
    rintro e' w37 ⟨rfl,hA38⟩
    refine ⟨_,rfl,fun a hF=>hK _ _ ?_⟩
    replace hA38:Hp w0 (ZE4::ZE3::[row b24 49 (.int .i64 (IntKind.i64.wrap (n+1))::dc ch)]::ZE2::XT::XS::ZE1::[row b1 49 (.int .i64 n::dc ch)]::[]) w37:=hA38
    rw [decide_eq_false hne4] at hF
    refine vR hF<|vV O (aV O O O O)<|vE hK26<|vF1 O<|wKp hK25<|wQ fun K27 hK27=>wT fun K28 hK28=>vX O<|vV O (aU O Ia O O)<|vV O (ax O O O O O)<|vE hK28 fun a hF=>?_
    by_cases hz:0<tn.length
    ·refine az hF O (dY ag) ?_
     obtain ⟨k,hk3⟩:∃ k:Nat,iq at_ 0 ((sd.length:Int)-1)=(k:Int):=⟨(iq at_ 0 ((sd.length:Int)-1)).toNat,by have:=oZ at_ 0 ((sd.length:Int)-1) ag; omega⟩
     have hkl:=oZ at_ 0 ((sd.length:Int)-1) ag
     rw [hk3] at hkl
     have hkd:k<sd.length:=by omega
     obtain ⟨d,hd⟩:∃ d,sd[k]? = some d:=⟨_,List.getElem?_eq_getElem hkd⟩
     have hd32:=hsd d (List.mem_of_getElem? hd)
     obtain ⟨xb,hxb⟩:∃ xb:UInt8,xb=tb (bAt d 0):=⟨_,rfl⟩
     obtain ⟨d2,hd2⟩:∃ q,q=d.set 0 xb:=⟨_,rfl⟩
     obtain ⟨sd2,hsd2q⟩:∃ q,q=sd.set k d2:=⟨_,rfl⟩
     have hd232:d2.length=32:=by rw [hd2,List.length_set,hd32]
     have hs2l:sd2.length=sd.length:=by rw [hsd2q,List.length_set]
     have hsd2:∀ d∈sd2,d.length=32:=fun x hx=>by
      rw [hsd2q] at hx
      rcases List.mem_or_eq_of_mem_set hx with h | h
      ·exact hsd x h
      ·rw [h,hd232]
     obtain ⟨gs,BS,ZS,cS2,hvv,rfl,hWl,hcS2,hopn⟩:=hBS.openF ag
     obtain ⟨hld,hset⟩:=DV (B:=BS) (Z:=ZS) hsd hd xb
     rw [← hd2,← hsd2q] at hset
     injection hvv with hv1 hv2 hv3
     have hFn:=hF
     subst hv1 hv3
     have hF:=hFn
     clear hFn
     apply wp_seq_k; intro K29 hK29
     refine bi 12 [5,12] [0,1,2,3,4,5,6,7,8,9,10,11,12] _ af af (Hq.drew hA38.q) ?_
     have hA39:=Hl.drew hA38
     refine pR hF<|pX O O<|pX O O<|pX O O<|pW O O (fun _=>aU O Ij O O)<|pW O O (fun _=>dL O O O (Hz _ ag)) fun a hF=>?_
     refine jg O O O (fun K hK=>ay hF O ae AZ rfl rfl ?_)
     with_reducible refine (yK w37.drew at_ 0 ((sd.length:Int)-1) ae ag ag).mono ?_
     rintro e' w42 ⟨rfl,rfl⟩
     refine ⟨_,rfl,fun a hF=>hK _ _ (fun _=>?_) ?_⟩
     ·exact hA39.q
     rw [hk3] at hF
     refine pR hF<|pW O O (fun _=>bD O Ij wo O O k rfl hkd rfl)<|pW O O (fun _=>vW O Ip qj O O 0 O ae (rfl:(⟨_,BS.length+k*32+0*1,none⟩:Addr)=⟨_,BS.length+k*32,none⟩) (rfl:(none:Option Nat)=none))<|pV O O (fun x hx=>aX (u:= .int .u8 ((bAt d 0).toNat:Int)) O hx O 5 O hld qF)<|pW O O (fun _=>Ez O O O (show bits .xor .u8 ((bAt d 0).toNat:Int) 1=(xb.toNat:Int) by rw [hxb]; exact FT _)) fun a hF=>?_
     refine pR hF<|pW O O (fun _=>bD O Ij wo O O k rfl hkd rfl)<|pW O O (fun _=>vW O Ip qj O O 0 O ae (rfl:(⟨_,BS.length+k*32+0*1,none⟩:Addr)=⟨_,BS.length+k*32,none⟩) (rfl:(none:Option Nat)=none)) fun a hF=>?_
     refine jg O O O (fun K hK=>bH hF O O hA39 O O 5 O (List.getElem?_eq_some_iff.1 hld).1 rfl qj (fun w43 hA44=>hK _ _ (fun h=>absurd h ae) ?_))
     replace hA44:Hp w0 (ZE4::ZE3::[row b24 49 (.int .i64 (IntKind.i64.wrap (n+1))::dc ch)]::ZE2::XT::[row gs 29 ((BS++dO sd++ZS).set (BS.length+k*32) (.int .u8 (xb.toNat:Int)))]::ZE1::[row b1 49 (.int .i64 n::dc ch)]::[]) w43:=hA44
     refine df ?_
     refine hK29 _ _ ?_
     apply wp_seq_k; intro K30 hK30
     have hA45:Hp w0 (ZE4::ZE3::[row b24 49 (.int .i64 (IntKind.i64.wrap (n+1))::dc ch)]::ZE2::XT::[row gs 29 (BS++dO sd2++ZS)]::ZE1::[row b1 49 (.int .i64 n::dc ch)]::[]) w43:=(by have h9:=hA44; rw [hset] at h9; exact h9)
     have hBS2:=hopn (dO sd2) (by rw [jQ hsd2,hs2l])
     obtain ⟨XS2,hXS2⟩:∃ q:Seg,q=[row gs 29 (BS++dO sd2++ZS)]:=⟨_,rfl⟩
     rw [← hXS2] at hBS2 hA45
     rw [← hs2l] at hBS2 hF
     obtain ⟨AS2,cS2',he2,hcS3,hRS⟩:=hBS2.rc (w0:=w0) (R:=[XS2]) (HY ..)
     injection he2 with he3 _ he4
     rw [he3,he4] at hF
     have hRT3:Rc w0 [XT,XS2] AT (tn.map ak):=hRT.mono (List.cons_subset.2 ⟨by simp,List.nil_subset _⟩)
     have hRS3:Rc w0 [XT,XS2] AS2 (dO sd2):=hRS.mono (List.cons_subset.2 ⟨by simp,List.nil_subset _⟩)
     obtain ⟨n1,hn1⟩:∃ q,q=ns.drop 1:=⟨_,rfl⟩
     obtain ⟨d1,hd1q⟩:∃ q,q=ds.drop 1:=⟨_,rfl⟩
     have hn1l:n1.length=ns.length-1:=by rw [hn1,List.length_drop]
     have hd1l:d1.length=ds.length-1:=by rw [hd1q,List.length_drop]
     have hd1:∀ d∈d1,d.length=32:=fun d hd=>hds d (List.mem_of_mem_drop (by rw [hd1q] at hd; exact hd))
     have h1b:Rc w0 [] (sub A1 1 c1 1) (n1.map ak):=by
      have h9:=h1.drop 1 1 (cap:=c1) (by rw [List.length_map]; omega)
      rwa [Nat.mul_one,← List.map_drop,← hn1] at h9
     have h2b:Rc w0 [] (sub A2 1 c2 32) (dO d1):=by
      have h9:=h2.drop 1 32 (cap:=c2) (by rw [jQ hds]; omega)
      rwa [AU hds,← hd1q] at h9
     refine wp_region_lit ?_
     refine vR hF<|vV O (bW (new:=(.int .i64 n::dc ch)) O hA45.q O 7 O iI (by rw [fA hch]; exact Ib _) (by rw [List.drop_zero]; exact H6 (by rw [fA hch]; exact Ib _))) fun a hF=>?_
     refine vR hF<|vX O<|vX O<|vX O fun a hF=>?_
     refine aB O (fun K hK=>ay hF O ae Eo rfl rfl ?_)
     with_reducible refine (jd n ch clk AT tn cT AS2 sd2 cS2' _ hT hch hRT3 hRS3 hsd2 (List.cons_subset.2 ⟨(H5 _ (H5 _ (H5 _ (H5 _ ((HY ..)))))),List.cons_subset.2 ⟨(H5 _ (H5 _ (H5 _ (H5 _ (H5 _ ((HY ..))))))),List.nil_subset _⟩⟩) hA45).mono ?_
     rintro e' w46 ⟨vE5,ZE5,X5,rfl,hB5,hZE5,hA47⟩
     refine ⟨_,rfl,fun a hF=>hK _ _ ?_⟩
     replace hA47:Hp w0 (ZE5::ZE4::ZE3::[row b24 49 (.int .i64 (IntKind.i64.wrap (n+1))::dc ch)]::ZE2::XT::XS2::ZE1::[row b1 49 (.int .i64 n::dc ch)]::[]) w46:=hA47
     obtain ⟨_,AE5,cE5,rfl,hcE5,hRE5⟩:=hZE5.rd (w0:=w0) (R:=[ZE5]) (HY ..)
     refine vR hF<|vX O<|vV O (aJ (v:= .slice AE5 X5.length cE5) rfl rfl rfl)<|vV O (aJ (v:= .int .i64 ((tbE tn sd2.length:Nat):Int)) O O O)<|vX O<|vE hK30<|wQ fun K31 hK31 a hF=>?_
     refine l9 10 [9] [6,10] [0,1,2,3,4,5,6,7,8,9,10] (fun x=>Hq w0 (ZE5::ZE4::ZE3::[row b24 49 (.int .i64 (IntKind.i64.wrap (n+1))::dc ch)]::ZE2::XT::XS2::ZE1::[row b1 49 (.int .i64 n::dc ch)]::[]) x) af af (Hq.drew (hA47.q)) ?_
     have hA48:=Hl.drew hA47
     refine qf hF O O O O ae _ (fun x hx=>bW (new:=(.int .i64 n::dc ch)) O (hx O) rfl 8 O iI (by rw [fA hch]; exact Ib _) (by rw [List.drop_zero]; exact H6 (by rw [fA hch]; exact Ib _))) (fun a hF=>?_)
     refine qf hF O O O O ae _ (fun x hx=>aS O O) (fun a hF=>?_)
     refine qf hF O O O O ae _ (fun x hx=>aS O O) (fun a hF=>?_)
     refine qf hF O O O O ae _ (fun x hx=>gU O Ia qi O (.some (k:=1) rfl rfl) (.none ns.length) ag ag (show Value.slice (sub A1 1 c1 1) (ns.length-1) (c1-1)= .slice (sub A1 1 c1 1) n1.length (c1-1) by rw [hn1l])) (fun a hF=>?_)
     refine qf hF O O O O ae _ (fun x hx=>aS O O) (fun a hF=>?_)
     refine qf hF O O O O ae _ (fun x hx=>gU O Ij wo O (.some (k:=1) rfl rfl) (.none ds.length) ag ag (show Value.slice (sub A2 1 c2 32) (ds.length-1) (c2-1)= .slice (sub A2 1 c2 32) d1.length (c2-1) by rw [hd1l])) (fun a hF=>?_)
     refine GK O O O (fun K hK=>ay hF O ae Eo rfl rfl ?_)
     with_reducible refine (jd n ch clk (sub A1 1 c1 1) n1 (c1-1) (sub A2 1 c2 32) d1 (c2-1) _ hT hch h1b h2b hd1 (List.nil_subset _) hA48).mono ?_
     rintro e' w49 ⟨vE6,ZE6,X6,rfl,hB6,hZE6,hA50⟩
     refine ⟨_,rfl,fun a hF=>hK _ _ (fun _=>?_) ?_⟩
     ·exact (qT hA50)
     replace hA50:Hp w0 (ZE6::ZE5::ZE4::ZE3::[row b24 49 (.int .i64 (IntKind.i64.wrap (n+1))::dc ch)]::ZE2::XT::XS2::ZE1::[row b1 49 (.int .i64 n::dc ch)]::[]) w49:=hA50
     obtain ⟨_,AE6,cE6,rfl,hcE6,hRE6⟩:=hZE6.rd (w0:=w0) (R:=[ZE6]) (HY ..)
     refine qf hF O O O O ae _ (fun x hx=>aS O O) (fun a hF=>?_)
     refine qf hF O O O O ae _ (fun x hx=>aJ (v:= .slice AE6 X6.length cE6) rfl rfl rfl) (fun a hF=>?_)
     refine qf hF O O O O ae _ (fun x hx=>aJ (v:= .int .i64 ((tbE n1 d1.length:Nat):Int)) O O O) (fun a hF=>?_)
     refine FV hF O O O O ae _ (jG O O) (fun h=>absurd h ae) (fun a hF=>?_)
     refine EJ ?_
     refine hK31 _ _ ?_
     apply wp_seq_k; intro K32 hK32
     have hBr:TbB n ch clk tn sd X1:=by rw [htn,hsd_]; exact hB1.turn hnd
     have hne5:¬ X1=X5:=hBr.sum hch (by rw [hk2]) hsd hd232 hkd (by rw [hd,hd2,hxb]; exact DD ag) (by rw [← hsd2q]; exact hB5)
     have hne6:¬ X1=X6:=hB1.less hch h0 hB6 ag
     refine wp_region_lit ?_
     refine vR hF<|vX O<|vX O fun a hF=>?_
     refine aB O (fun K hK=>ay hF O ae jS rfl rfl ?_)
     with_reducible refine (jO _ (hREx.mono (List.cons_subset.2 ⟨(H5 _ (H5 _ (H5 _ (H5 _ (H5 _ (H5 _ (H5 _ (H5 _ ((HY ..)))))))))),List.nil_subset _⟩)) (hRE5.mono (List.cons_subset.2 ⟨(H5 _ ((HY ..))),List.nil_subset _⟩)) ag hA50).mono ?_
     rintro e' w51 ⟨rfl,hA52⟩
     refine ⟨_,rfl,fun a hF=>hK _ _ ?_⟩
     replace hA52:Hp w0 (ZE6::ZE5::ZE4::ZE3::[row b24 49 (.int .i64 (IntKind.i64.wrap (n+1))::dc ch)]::ZE2::XT::XS2::ZE1::[row b1 49 (.int .i64 n::dc ch)]::[]) w51:=hA52
     rw [decide_eq_false hne5] at hF
     refine vR hF<|vX O fun a hF=>?_
     refine aH hF O O O O (aj rfl) ae _ (aS O O) (fun a hF=>?_)
     refine aH hF O O O O (aj rfl) ae _ (aS O O) (fun a hF=>?_)
     refine eF hF O O O (aj rfl) (fun K hK=>ay hF O ae jS rfl rfl ?_)
     with_reducible refine (jO _ (hREx.mono (List.cons_subset.2 ⟨(H5 _ (H5 _ (H5 _ (H5 _ (H5 _ (H5 _ (H5 _ (H5 _ ((HY ..)))))))))),List.nil_subset _⟩)) (hRE6.mono (List.cons_subset.2 ⟨((HY ..)),List.nil_subset _⟩)) ag hA52).mono ?_
     rintro e' w53 ⟨rfl,hA54⟩
     refine ⟨_,rfl,fun a hF=>hK _ _ ?_⟩
     replace hA54:Hp w0 (ZE6::ZE5::ZE4::ZE3::[row b24 49 (.int .i64 (IntKind.i64.wrap (n+1))::dc ch)]::ZE2::XT::XS2::ZE1::[row b1 49 (.int .i64 n::dc ch)]::[]) w53:=hA54
     rw [decide_eq_false hne6] at hF
     refine vR hF<|vV O (aV O O O O)<|vE hK32<|vF1 O<|wKp hK27 fun a hF=>?_
     refine wp_seq_k fun K33 hK33=>wp_region_lit ?_
     refine aB O (fun K hK=>ay hF O ae ou rfl rfl ?_)
     with_reducible refine (nZ _ hT hA54).mono ?_
     rintro e' w55 ⟨rfl,hA56⟩
     refine ⟨_,rfl,fun a hF=>hK _ _ ?_⟩
     replace hA56:Hp w0 (ZE6::ZE5::ZE4::ZE3::[row b24 49 (.int .i64 (IntKind.i64.wrap (n+1))::dc ch)]::ZE2::XT::XS2::ZE1::[row b1 49 (.int .i64 n::dc ch)]::[]) w55:=hA56
     refine vR hF<|vX O<|vE hK33 fun a hF=>?_
     apply wp_ret
     refine aK hF Tryz.results8 O ?_
     have hA57:Hp w0 ([]) w55:=hpS 10 [] [0,1,2,3,4,5,6,7,8,9] hA56 rfl
     exact ⟨rfl,hA57.at0⟩
    ·refine au hF O (eX ag) ?_
     apply wp_skip
     refine hK27 _ _ ?_
     refine wp_seq_k fun K34 hK34=>wp_region_lit ?_
     refine aB O (fun K hK=>ay hF O ae ou rfl rfl ?_)
     with_reducible refine (nZ _ hT hA38).mono ?_
     rintro e' w58 ⟨rfl,hA59⟩
     refine ⟨_,rfl,fun a hF=>hK _ _ ?_⟩
     replace hA59:Hp w0 (ZE4::ZE3::[row b24 49 (.int .i64 (IntKind.i64.wrap (n+1))::dc ch)]::ZE2::XT::XS::ZE1::[row b1 49 (.int .i64 n::dc ch)]::[]) w58:=hA59
     refine vR hF<|vX O<|vE hK34 fun a hF=>?_
     apply wp_ret
     refine aK hF Tryz.results8 O ?_
     have hA60:Hp w0 ([]) w58:=hpS 8 [] [0,1,2,3,4,5,6,7] hA59 rfl
     exact ⟨rfl,hA60.at0⟩
   ·refine az hF O (gG ag) ?_
    have hX0:X1.length=0:=by rw [hB1.nil (by rw [← hk]; exact hk0)]; rfl
    refine wS hF fun K35 hK35=>vX O<|vV O (aU O Hw O O)<|vV O (ax O O O O (dJ ag))<|vX O fun a hF=>?_
    refine eF hF O O O (aj rfl) (fun K hK=>ay hF O ae ou rfl rfl ?_)
    with_reducible refine (nZ _ hT hA23).mono ?_
    rintro e' w61 ⟨rfl,hA62⟩
    refine ⟨_,rfl,fun a hF=>hK _ _ ?_⟩
    replace hA62:Hp w0 (ZE2::XT::XS::ZE1::[row b1 49 (.int .i64 n::dc ch)]::[]) w61:=hA62
    refine vR hF<|vV O (aZ O O O O)<|vX O<|vE hK35 fun a hF=>?_
    apply wp_ret
    simp only [Exit.then]
    refine aK hF Tryz.results8 O ?_
    have hA63:Hp w0 ([]) w61:=hpS 5 [] [0,1,2,3,4] hA62 rfl
    exact ⟨rfl,hA63.at0⟩
 by_cases hlt:ns0.length<ds0.length
 ·refine az hF O (dY ag) ?_
  refine wp_region_lit ?_
  refine vR hF<|vX O<|vX O<|vV O (aU O Ia O O)<|vV O (gU O Ij wo O (.none 0) (.some rfl rfl) (Hy _) ag kN)<|vX O fun a hF=>?_
  refine aN ?_
  exact hJ _ _ (by rw [show ds.length=ns0.length by omega]; exact hF.keep [1,2,3,4,5] rfl) hA3
 ·refine au hF O (eX ag) ?_
  apply wp_skip
  exact hJ _ _ (by rw [show ds.length=ds0.length by omega]; exact hF.keep [1,2,3,4,5] rfl) hA3
end Go.Proofs.YtepbmdlgdaedpaaGreatDoor
