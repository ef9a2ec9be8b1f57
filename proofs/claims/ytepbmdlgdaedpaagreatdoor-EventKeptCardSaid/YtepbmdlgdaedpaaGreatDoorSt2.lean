/- What a State is: the walk. -/
import Derived.Test.YtepbmdlgdaedpaaGreatDoorSt1
/- What a State is: the walk. -/
namespace Go.Proofs.YtepbmdlgdaedpaaGreatDoor
open Go.RowKit Go.Dk
theorem DU:isRow Tryz.prog 52 39=true:=af
theorem Fp:aK Tryz.prog 89:=⟨_,Tryz.func89,af,af⟩
theorem rU:aK Tryz.prog 90:=⟨_,Tryz.func90,af,af⟩
theorem JC {P:Program} {w:World} {n:Nat} {F:List (Nat × Value)} {o:Oper} {x y z:Operand} {k k' k'':IntKind} {p q s r:Int} {ts:Array TypeId} (ho:o.op= .call { callee:= .builtin .max,args := #[x,y,z],argTypes:=ts }) (hx:ev F x=some (.int k p)) (hy:ev F y=some (.int k' q)) (hz:ev F z=some (.int k'' s)) (hr:max (max p q) s=r):Yd P n F o w (.int k r):=fun a hF=>by
 have h:∀ p q:Int,(if q>p then q else p)=max p q:=fun p q=>by rw [Int.max_def]; split <;> split <;> omega
 subst hr
 unfold execOp
 simp only [ho,hF.ev hx,hF.ev hy,hF.ev hz,resolve,invoke,builtin,Builtin.max_,List.map_toArray,List.map_cons,List.map_nil,Sem.run_bind,Sem.run_pure,Result.andThen_ok,List.foldlM_cons,List.foldlM_nil,Builtin.max2,h]
theorem Et (a b c:Nat):max (max (a:Int) (b:Int)) (c:Int)=((max (max a b) c:Nat):Int):=by omega
theorem rH (a b:List Val):dU (a++b)=if dU a=0 then dU b else dU a:=by
 induction a with
 | nil=>rfl
 | cons v a ih =>
  by_cases hv:v.right=0
  ·simp only [List.cons_append,dU,if_pos hv]; exact ih
  ·simp only [List.cons_append,dU,if_neg hv]
theorem CS {l:List Val} {i:Nat} {v:Val} (h:dU (l.take i)=0) (hi:l[i]? = some v) (hv:¬ v.right=0):dU l=v.right:=by
 obtain ⟨hlt,he⟩:=List.getElem?_eq_some_iff.1 hi
 conv=>lhs; rw [← List.take_append_drop i l]
 rw [rH,if_pos h,List.drop_eq_getElem_cons hlt,he,dU,if_neg hv]
theorem xZ {l:List Val} {i:Nat} {v:Val} (h:dU (l.take i)=0) (hi:l[i]? = some v) (hv:v.right=0):dU (l.take (i+1))=0:=by
 rw [List.take_add_one,hi,rH,if_pos h,Option.toList_some,dU,if_pos hv]
 rfl
theorem BL {l:List Val} {i:Nat} {v:Val} (h:l[i]? = some v):(l.take (i+1)).flatMap Val.put=(l.take i).flatMap Val.put++v.put:=by
 rw [List.take_add_one,h]; simp
theorem uZ {l:List Nat} {i:Nat} {v:Nat} (h:l[i]? = some v):(l.take (i+1)).flatMap (be 1)=(l.take i).flatMap (be 1)++be 1 v:=by
 rw [List.take_add_one,h]; simp
theorem Ib {l:List Bool} {i:Nat} {v:Bool} (h:l[i]? = some v):(l.take (i+1)).flatMap nV=(l.take i).flatMap nV++nV v:=by
 rw [List.take_add_one,h]; simp
theorem pg {α:Type} {f:α→List UInt8} {k:Nat} (hk:∀ x,(f x).length=k) (l:List α):(l.flatMap f).length=l.length*k:=by
 induction l with
 | nil=>simp
 | cons x l ih=>rw [List.flatMap_cons,List.length_append,hk,ih,List.length_cons,Nat.add_mul]; omega
def stX (c:CA) (n:Int) (ch:List UInt8) (l1 l2 l3:List (List UInt8)):List UInt8 :=
 if stE c.typ (l1.map (jd c.bind)) l1.length l2.length l3.length=0 then stB c.typ n ch (l1.map (jd c.bind)) (l2.map (qX c.opn c.clo)) (l3.map fun m=>decide (m∈c.rea)) else []
theorem uG {c:CA} {n:Int} {ch:List UInt8} {l1 l2 l3:List (List UInt8)} (h:¬ stE c.typ (l1.map (jd c.bind)) l1.length l2.length l3.length=0):stX c n ch l1 l2 l3=[]:=if_neg h
theorem yP {c:CA} {n:Int} {ch:List UInt8} {l1 l2 l3:List (List UInt8)} (h:stE c.typ (l1.map (jd c.bind)) l1.length l2.length l3.length=0):stX c n ch l1 l2 l3=stB c.typ n ch (l1.map (jd c.bind)) (l2.map (qX c.opn c.clo)) (l3.map fun m=>decide (m∈c.rea)):=if_pos h
set_option maxRecDepth 100000 in
set_option maxHeartbeats 8000000 in
theorem DK {w0:World} {R:List Seg} {G:List Seg} (n:Int) (ch:List UInt8) (ca:CA) (A1:Option Addr) (l1:List (List UInt8)) (c1:Nat) (A2:Option Addr) (l2:List (List UInt8)) (c2:Nat) (A3:Option Addr) (l3:List (List UInt8)) (c3:Nat) (w:World) (hT:mO w0) (hch:ch.length=32) (hC:ca.Ok w0 G) (h1:Rc w0 G A1 (l1.map aj)) (h2:Rc w0 G A2 (l2.map aj)) (h3:Rc w0 G A3 (l3.map aj)) (hG:G⊆R) (hA:Hp w0 R w):Calls Tryz.prog 24 #[.agg (.int .i64 n::dc ch:List Value).toArray,.agg ca.cells.toArray,.slice A1 l1.length c1,.slice A2 l2.length c2,.slice A3 l3.length c3] w fun e w'=>∃ v Z,e= .returned (.tuple #[v,.int .i64 (stE ca.typ (l1.map (jd ca.bind)) l1.length l2.length l3.length:Nat)])∧Buf 5 1 Z v (stX ca n ch l1 l2 l3).length (dc (stX ca n ch l1 l2 l3))∧Hp w0 (Z::R) w':=by
 have h32:=hC.h32
 obtain ⟨vs,hvs⟩:∃ vs,vs=l1.map (jd ca.bind):=⟨_,rfl⟩
 obtain ⟨lf,hlf⟩:∃ lf,lf=l2.map (qX ca.opn ca.clo):=⟨_,rfl⟩
 obtain ⟨mk,hmk⟩:∃ mk:List Bool,mk=l3.map (fun m=>decide (m∈ca.rea)):=⟨_,rfl⟩
 have hvl:vs.length=l1.length:=by rw [hvs,List.length_map]
 have hll:lf.length=l2.length:=by rw [hlf,List.length_map]
 have hml:mk.length=l3.length:=by rw [hmk,List.length_map]
 rw [← hvs]
 refine aP Tryz.func24 O Tryz.ntmps24 ai (fun a hF=>?_)
 refine wp_seq_k fun K1 hK1=>wp_region_lit ?_
 refine ax O (fun K hK=>ed (cs:= .int .i64 n::dc ch) hF O ae rfl hA O (fun b1 w2 a hb1 hF hA3=>hK _ _ ?_))
 refine ax O (fun K hK=>ed (cs:=ca.cells) hF O ae rfl hA3 O (fun b4 w5 a hb4 hF hA6=>hK _ _ ?_))
 refine vR hF<|vX O<|vX O<|vE hK1<|wQ fun K2 hK2=>wT fun K3 hK3=>vV O (yf 1 O NL O uC O)<|vV O (aU (u:=aj ca.typ) rfl hA6.q O 0 O O uV) fun a hF=>?_
 refine ax O (fun K hK=>ay hF O ae AV rfl rfl ?_)
 with_reducible refine (lT ca.typ _ hT hA6).mono ?_
 rintro e' w9 ⟨rfl,rfl⟩
 refine ⟨_,rfl,fun a hF=>hK _ _ ?_⟩
 refine vR hF<|vV O (dm O O O)<|vE hK3 fun a hF=>?_
 rcases tf (bY ca.typ) with hl | hl
 ·refine aG hF O (by rw [hl]; rfl) ?_
  refine wS hF fun K4 hK4=>vX O<|vX O<|vE hK4 fun a hF=>?_
  apply wp_ret
  simp only [Exit.then]
  refine gG hF Tryz.results24 O O ?_
  have hA10:Hp w0 (R) w5:=hpS 2 [] [0,1] hA6 rfl
  have e0:stE ca.typ vs l1.length l2.length l3.length=34:=if_pos hl
  rw [e0]
  exact ⟨_,[],rfl,by rw [uG (by rw [← hvs,e0]; decide)]; exact Buf.nil _ _,Hp.nil hA10⟩
 ·refine au hF O (by rw [hl]; rfl) ?_
  have htl:=dZ hl
  apply wp_skip
  refine hK2 _ _ ?_
  apply wp_seq_k; intro K5 hK5
  refine wS hF fun K6 hK6=>vX O<|vV O (aT O Nk O O)<|vX O<|vV O (aT O Nk O O)<|vX O<|vV O (aT O Nk O O)<|vV O (JC O O O O (Et _ _ _))<|vV O (aF O O O O O)<|vE hK6 fun a hF=>?_
  by_cases hm:64<max (max l1.length l2.length) l3.length
  ·refine aG hF O (dY ag) ?_
   refine wS hF fun K7 hK7=>vX O<|vX O<|vE hK7 fun a hF=>?_
   apply wp_ret
   simp only [Exit.then]
   refine gG hF Tryz.results24 O O ?_
   have hA11:Hp w0 (R) w5:=hpS 2 [] [0,1] hA6 rfl
   have e0:stE ca.typ vs l1.length l2.length l3.length=7:=(if_neg (by rw [hl]; decide)).trans (if_pos hm)
   rw [e0]
   exact ⟨_,[],rfl,by rw [uG (by rw [← hvs,e0]; decide)]; exact Buf.nil _ _,Hp.nil hA11⟩
  ·refine au hF O (fE ag) ?_
   have hm1:l1.length≤64∧l2.length≤64∧l3.length≤64:=by omega
   have e1:stE ca.typ vs l1.length l2.length l3.length=dU vs:=(if_neg (by rw [hl]; decide)).trans (if_neg hm)
   apply wp_skip
   refine hK5 _ _ ?_
   refine wp_seq_k fun K8 hK8=>wp_region_lit ?_
   refine ax O (fun K hK=>ay hF O ae Jd rfl rfl ?_)
   with_reducible refine (zl w0 _ _ hA6).mono ?_
   rintro e' w12 ⟨wb,Y0,rfl,hY,hA13⟩
   refine ⟨_,rfl,fun a hF=>hK _ _ ?_⟩
   replace hA13:Hp w0 (Y0::[row b4 52 ca.cells]::[row b1 49 (.int .i64 n::dc ch)]::R) w12:=hA13
   refine vR hF<|vX O<|vE hK8<|wT fun K9 hK9=>vX O<|vV O (yf 1 O NL O uC O)<|vV O (aU (u:=aj ca.typ) rfl hA13.q O 1 O O uV) fun a hF=>?_
   refine ax O (fun K hK=>ay hF O ae Ja rfl rfl ?_)
   with_reducible refine (jY w0 _ ([row b4 52 ca.cells]::[row b1 49 (.int .i64 n::dc ch)]::R) wb _ _ ca.typ 64 hY hA13 (by rw [List.length_nil]; omega)).mono ?_
   rintro e' w14 ⟨Y1,rfl,hY,hA15⟩
   refine ⟨_,rfl,fun a hF=>hK _ _ ?_⟩
   replace hA15:Hp w0 (Y1::[row b4 52 ca.cells]::[row b1 49 (.int .i64 n::dc ch)]::R) w14:=hA15
   rw [iq ae ae ag,List.nil_append] at hY
   refine aH<|hK9 _ _ ?_
   refine wS hF fun K10 hK10=>vX O<|vV O (yf 0 O N8 O gZ O)<|vV O (aU (u:= .int .i64 n) rfl hA15.q O 2 O O jZ)<|vV O (bW O NC NJ O (jE _)) fun a hF=>?_
   refine ax O (fun K hK=>ay hF O ae A7 rfl rfl ?_)
   with_reducible refine (fU w0 _ ([row b4 52 ca.cells]::[row b1 49 (.int .i64 n::dc ch)]::R) wb _ _ (u64 n) (iQ _) _ O hY hA15 (by rw [gq]; omega)).mono ?_
   rintro e' w16 ⟨Y2,rfl,hY,hA17⟩
   refine ⟨_,rfl,fun a hF=>hK _ _ ?_⟩
   replace hA17:Hp w0 (Y2::[row b4 52 ca.cells]::[row b1 49 (.int .i64 n::dc ch)]::R) w16:=hA17
   refine aH<|hK10 _ _ ?_
   refine wS hF fun K11 hK11=>vX O<|vV O (yf 1 O N8 O zV O)<|vV O (cZ (new:=dc ch) rfl hA17.q O 2 O Hm (by rw [Fg hch]; exact Nat.le_of_ble_eq_true rfl) (by show (dc ch).take 32=_; exact Ny (by rw [aW,hch]; exact Nv _))) fun a hF=>?_
   refine ax O (fun K hK=>kG (qs := #[(0,.agg (dc ch).toArray)]) (cells:=(dc ch).toArray) hF O ae rfl hA17 O (ny hch) (fun b18 w19 a hb18 hF hA20=>hK _ _ ?_))
   have hA21:Hp w0 (Y2::[row b18 29 (dc ch)]::[row b4 52 ca.cells]::[row b1 49 (.int .i64 n::dc ch)]::R) w19:=hpO 4 [1,0,2,3] hA20 rfl
   refine ax O (fun K hK=>ay hF O ae I8 rfl rfl ?_)
   with_reducible refine (jO w0 _ ([row b18 29 (dc ch)]::[row b4 52 ca.cells]::[row b1 49 (.int .i64 n::dc ch)]::R) wb _ _ (some ⟨b18,0,none⟩) ch hch (nZ (Rc.ofRow (i:=0) (off:=0) rfl (by rw [List.drop_zero]; exact List.take_length ..))) hY hA21 (by rw [List.length_append,gq,bf]; omega)).mono ?_
   rintro e' w22 ⟨Y3,rfl,hY,hA23⟩
   refine ⟨_,rfl,fun a hF=>hK _ _ ?_⟩
   replace hA23:Hp w0 (Y3::[row b18 29 (dc ch)]::[row b4 52 ca.cells]::[row b1 49 (.int .i64 n::dc ch)]::R) w22:=hA23
   refine aH<|hK11 _ _ ?_
   apply wp_seq_k; intro K12 hK12
   have hA24:Hp w0 (Y3::[row b4 52 ca.cells]::R) w22:=hpS 4 [0,2] [1,3] hA23 rfl
   obtain ⟨m0,hm0⟩:∃ m0,m0=nameB ca.typ++be 8 (u64 n)++ch:=⟨_,rfl⟩
   rw [← hm0] at hY
   have hn0:m0.length≤106:=by rw [hm0,List.length_append,List.length_append,gq,bf,hch]; omega
   refine wp_region_lit ?_
   refine vR hF<|vX O<|vX O<|vV O (aT O Nk O O)<|vV O (bW O NC NY O (show IntKind.u16.wrap ((l1.length:Nat):Int)=((l1.length:Nat):Int) by rw [IntKind.wrap_u16]; omega)) fun a hF=>?_
   refine ax O (fun K hK=>ay hF O ae AU rfl rfl ?_)
   with_reducible refine (gX w0 _ ([row b4 52 ca.cells]::R) wb _ _ l1.length (by show l1.length<65536; omega) _ O hY hA24 ag).mono ?_
   rintro e' w25 ⟨Y4,rfl,hY,hA26⟩
   refine ⟨_,rfl,fun a hF=>hK _ _ ?_⟩
   replace hA26:Hp w0 (Y4::[row b4 52 ca.cells]::R) w25:=hA26
   refine aH<|hK12 _ _ ?_
   apply wp_seq_k; intro K13 hK13
   refine wS hF fun K14 hK14=>vX O<|vV O (aT O Nk O O)<|vX O<|vE hK14<|wBk fun a hF=>?_
   obtain ⟨m1,hm1e⟩:∃ m1,m1=m0++be 2 l1.length:=⟨_,rfl⟩
   rw [← hm1e] at hY
   have hn1:m1.length≤108:=by rw [hm1e,List.length_append,bf]; omega
   refine bH (G:=Nat) (fun i a x=>∃ (YV:Seg),i≤l1.length∧dU (vs.take i)=0∧WrS wb (m1++(vs.take i).flatMap Val.put) YV∧Fr 113 [(55,.int .i64 (i:Int)),(3,.slice A2 l2.length c2),(4,.slice A3 l3.length c3),(6,.pointer (some ⟨b4,0,none⟩)),(12,.pointer (some ⟨wb,0,none⟩)),(53,.slice A1 l1.length c1),(54,.int .i64 l1.length)] a∧Hp w0 (YV::[row b4 52 ca.cells]::R) x) (fun i=>l1.length-i) 0 (⟨_,Nl _,rfl,(hY.same (List.append_nil _).symm),hF.keep [55,3,4,6,12,53,54] rfl,hA26⟩) ?_
   clear hF
   rintro i a w28 ⟨YV,hi,hfr,hY,hF,hA27⟩
   refine wS hF fun K15 hK15=>vV O (aF O O O O O)<|vE hK15<|wQ fun K16 hK16 a hF=>?_
   have hpl:((vs.take i).flatMap Val.put).length≤4202688:=by
    have q1:=lH (je hfr)
    rw [List.length_take] at q1
    omega
   by_cases hlt:i<l1.length
   ·refine aG hF O (dF ag) ?_
    obtain ⟨q,hpq⟩:∃ q,l1[i]? = some q:=⟨_,List.getElem?_eq_getElem hlt⟩
    obtain ⟨bq,oq,hsq,hcq⟩:=h1.ne (i:=i) (by rw [List.length_map]; exact hlt)
    rw [hsq] at hF
    apply wp_skip
    refine hK16 _ _ ?_
    apply wp_seq_k; intro K17 hK17
    apply wp_block
    refine wS hF fun K18 hK18=>vV O (aY O Nk uC O O i rfl hlt (ad2 _ _ _))<|vV O (bV (u:=aj q) rfl (Hq.sub hA27.q (List.Subset.trans hG (bM (bM (dR))))) O hcq i (by rw [List.length_map]; exact hlt) rfl (by rw [List.getElem?_map,hpq]; rfl) uV) fun a hF=>?_
    refine vR hF<|vX O<|vE hK18<|wT fun K19 hK19=>vX O<|vV O (cZ (new:=ca.cells) rfl hA27.q O 1 O DU (by rw [Gq h32]; exact Nv _) (by rw [List.drop_zero]; exact Ny (by rw [Gq h32]; exact Nv _))) fun a hF=>?_
    refine vR hF<|vX O fun a hF=>?_
    refine ax O (fun K hK=>ay hF O ae Fp rfl rfl ?_)
    with_reducible refine (G9 ca q _ hC (List.Subset.trans hG (bM (bM (dR)))) hA27).mono ?_
    rintro e' w29 ⟨va,rfl,hva,hvo,hA30⟩
    refine ⟨_,rfl,fun a hF=>hK _ _ ?_⟩
    replace hA30:Hp w0 (YV::[row b4 52 ca.cells]::R) w29:=hA30
    have hvi:vs[i]? = some va.v:=by rw [hvs,List.getElem?_map,hpq,hva]; rfl
    refine ax O (fun K hK=>ay hF O ae Bd rfl rfl ?_)
    with_reducible refine (zA wb _ _ va _ hvo (List.Subset.trans hG (bM (dR))) hY hA30 (by rw [List.length_append]; omega)).mono ?_
    rintro e' w31 ⟨YW,rfl,hY,hA32⟩
    refine ⟨_,rfl,fun a hF=>hK _ _ ?_⟩
    replace hA32:Hp w0 (YW::[row b4 52 ca.cells]::R) w31:=hA32
    refine vR hF<|vX O<|vE hK19<|wT fun K20 hK20=>vX O<|vV O (aF O O O O O)<|vE hK20 fun a hF=>?_
    by_cases hr0:va.v.right=0
    ·refine au hF O (fK ag) ?_
     apply wp_skip
     refine hK17 _ _ ?_
     refine wp_region_lit ?_
     refine vR hF<|vV O (bT O O O (Np _ ag))<|vX O fun a hF=>?_
     refine aH ?_
     rw [← hsq] at hF
     exact ⟨i+1,ag,YW,ag,xZ hfr hvi hr0,hY.same (by rw [List.append_assoc,← BL hvi]),hF.keep [55,3,4,6,12,53,54] rfl,hA32⟩
    ·refine aG hF O (iF ag) ?_
     refine wS hF fun K21 hK21=>vX O<|vX O<|vX O<|vE hK21 fun a hF=>?_
     apply wp_ret
     simp only [Exit.then,Exit.inBlock]
     refine gG hF Tryz.results24 O O ?_
     have hA33:Hp w0 (R) w31:=hpS 2 [] [0,1] hA32 rfl
     have e0:stE ca.typ vs l1.length l2.length l3.length=va.v.right:=e1.trans (CS hfr hvi hr0)
     rw [e0]
     exact ⟨_,[],rfl,by rw [uG (by rw [← hvs,e0]; exact hr0)]; exact Buf.nil _ _,Hp.nil hA33⟩
   ·refine au hF O (dE ag) ?_
    obtain rfl:i=l1.length:=by omega
    rw [← hvl,List.take_length] at hfr hY
    clear hpl
    have hpl:(vs.flatMap Val.put).length≤4202688:=by
     have q1:=lH (je hfr)
     omega
    obtain ⟨m2,hm2⟩:∃ m2,m2=m1++vs.flatMap Val.put:=⟨_,rfl⟩
    rw [← hm2] at hY
    have hn2:m2.length≤4202796:=by rw [hm2,List.length_append]; omega
    apply wp_exit
    refine hK13 _ _ ?_
    refine wS hF fun K22 hK22=>vX O<|vX O<|vV O (aT O Nk O O)<|vV O (bW O NC NY O (show IntKind.u16.wrap ((l2.length:Nat):Int)=((l2.length:Nat):Int) by rw [IntKind.wrap_u16]; omega)) fun a hF=>?_
    refine ax O (fun K hK=>ay hF O ae AU rfl rfl ?_)
    with_reducible refine (gX w0 _ ([row b4 52 ca.cells]::R) wb _ _ l2.length (by show l2.length<65536; omega) _ O hY hA27 ag).mono ?_
    rintro e' w34 ⟨Y5,rfl,hY,hA35⟩
    refine ⟨_,rfl,fun a hF=>hK _ _ ?_⟩
    replace hA35:Hp w0 (Y5::[row b4 52 ca.cells]::R) w34:=hA35
    refine aH<|hK22 _ _ ?_
    apply wp_seq_k; intro K23 hK23
    refine wS hF fun K24 hK24=>vX O<|vV O (aT O Nk O O)<|vX O<|vE hK24<|wBk fun a hF=>?_
    obtain ⟨m3,hm3⟩:∃ m3,m3=m2++be 2 l2.length:=⟨_,rfl⟩
    rw [← hm3] at hY
    have hn3:m3.length≤4202798:=by rw [hm3,List.length_append,bf]; omega
    refine bH (G:=Nat) (fun i a x=>∃ (YV:Seg),i≤l2.length∧WrS wb (m3++(lf.take i).flatMap (be 1)) YV∧Fr 113 [(75,.int .i64 (i:Int)),(4,.slice A3 l3.length c3),(6,.pointer (some ⟨b4,0,none⟩)),(12,.pointer (some ⟨wb,0,none⟩)),(73,.slice A2 l2.length c2),(74,.int .i64 l2.length)] a∧Hp w0 (YV::[row b4 52 ca.cells]::R) x) (fun i=>l2.length-i) 0 (⟨_,Nl _,(hY.same (List.append_nil _).symm),hF.keep [75,4,6,12,73,74] rfl,hA35⟩) ?_
    clear hF
    rintro i a w37 ⟨YV,hi,hY,hF,hA36⟩
    refine wS hF fun K25 hK25=>vV O (aF O O O O O)<|vE hK25<|wQ fun K26 hK26 a hF=>?_
    have hpl2:((lf.take i).flatMap (be 1)).length≤64:=by rw [pg (k:=1) (fun x=>bf 1 x),List.length_take]; omega
    by_cases hlt:i<l2.length
    ·refine aG hF O (dF ag) ?_
     obtain ⟨q,hpq⟩:∃ q,l2[i]? = some q:=⟨_,List.getElem?_eq_getElem hlt⟩
     obtain ⟨bq,oq,hsq,hcq⟩:=h2.ne (i:=i) (by rw [List.length_map]; exact hlt)
     rw [hsq] at hF
     have hvi:lf[i]? = some (qX ca.opn ca.clo q):=by rw [hlf,List.getElem?_map,hpq]; rfl
     apply wp_skip
     refine hK26 _ _ ?_
     apply wp_seq_k; intro K27 hK27
     apply wp_block
     refine wS hF fun K28 hK28=>vV O (aY O Nk uC O O i rfl hlt (ad2 _ _ _))<|vV O (bV (u:=aj q) rfl (Hq.sub hA36.q (List.Subset.trans hG (bM (bM (dR))))) O hcq i (by rw [List.length_map]; exact hlt) rfl (by rw [List.getElem?_map,hpq]; rfl) uV) fun a hF=>?_
     refine vR hF<|vX O<|vE hK28<|wT fun K29 hK29=>vX O<|vE hK29<|wQ fun K30 hK30=>wBk<|wT fun K31 hK31=>vV O (yf 36 rfl NL O mf O)<|vV O (aU (u:= .slice ca.oA ca.opn.length ca.oC) rfl hA36.q O 1 O (Bl h32 1) mi)<|vX O fun a hF=>?_
     refine ax O (fun K hK=>ay hF O ae rU rfl rfl ?_)
     with_reducible refine (lD ca.oA ca.opn ca.oC q _ hC.opr (List.Subset.trans hG (bM (bM (dR)))) hC.opl hA36).mono ?_
     rintro e' w38 ⟨rfl,hA39⟩
     refine ⟨_,rfl,fun a hF=>hK _ _ ?_⟩
     replace hA39:Hp w0 (YV::[row b4 52 ca.cells]::R) w38:=hA39
     refine vR hF<|vX O<|vE hK31 fun a hF=>?_
     by_cases m1_:q∈ca.opn
     ·refine aG hF O (decide_eq_true m1_) ?_
      refine wp_region_lit ?_
      refine vR hF<|vX O fun a hF=>aH<|hK30 _ _ ?_
      refine wp_region_lit ?_
      refine vR hF<|vX O<|vX O fun a hF=>?_
      refine ax O (fun K hK=>ay hF O ae A8 rfl rfl ?_)
      with_reducible refine (fP w0 _ ([row b4 52 ca.cells]::R) wb _ _ 1 ae 1 O hY hA39 (by rw [List.length_append]; omega)).mono ?_
      rintro e' w40 ⟨YW,rfl,hY,hA41⟩
      refine ⟨_,rfl,fun a hF=>hK _ _ ?_⟩
      replace hA41:Hp w0 (YW::[row b4 52 ca.cells]::R) w40:=hA41
      refine aH<|hK27 _ _ ?_
      refine wp_region_lit ?_
      refine vR hF<|vV O (bT O O O (Np _ ag))<|vX O fun a hF=>?_
      refine aH ?_
      rw [← hsq] at hF
      rw [show qX ca.opn ca.clo q=1 from if_pos m1_] at hvi
      exact ⟨i+1,ag,YW,ag,hY.same (by rw [List.append_assoc,← uZ hvi]),hF.keep [75,4,6,12,73,74] rfl,hA41⟩
     ·refine au hF O (decide_eq_false m1_) ?_
      refine wS hF fun K32 hK32=>vV O (yf 37 rfl NL O mf O)<|vV O (aU (u:= .slice ca.cA ca.clo.length ca.cC) rfl hA39.q O 1 O (Bl h32 2) mi)<|vX O fun a hF=>?_
      refine ax O (fun K hK=>ay hF O ae rU rfl rfl ?_)
      with_reducible refine (lD ca.cA ca.clo ca.cC q _ hC.clr (List.Subset.trans hG (bM (bM (dR)))) hC.cll hA39).mono ?_
      rintro e' w42 ⟨rfl,hA43⟩
      refine ⟨_,rfl,fun a hF=>hK _ _ ?_⟩
      replace hA43:Hp w0 (YV::[row b4 52 ca.cells]::R) w42:=hA43
      refine vR hF<|vX O<|vE hK32 fun a hF=>?_
      by_cases m2_:q∈ca.clo
      ·refine aG hF O (decide_eq_true m2_) ?_
       refine wp_region_lit ?_
       refine vR hF<|vX O fun a hF=>aH<|hK30 _ _ ?_
       refine wp_region_lit ?_
       refine vR hF<|vX O<|vX O fun a hF=>?_
       refine ax O (fun K hK=>ay hF O ae A8 rfl rfl ?_)
       with_reducible refine (fP w0 _ ([row b4 52 ca.cells]::R) wb _ _ 2 ae 2 O hY hA43 (by rw [List.length_append]; omega)).mono ?_
       rintro e' w44 ⟨YW,rfl,hY,hA45⟩
       refine ⟨_,rfl,fun a hF=>hK _ _ ?_⟩
       replace hA45:Hp w0 (YW::[row b4 52 ca.cells]::R) w44:=hA45
       refine aH<|hK27 _ _ ?_
       refine wp_region_lit ?_
       refine vR hF<|vV O (bT O O O (Np _ ag))<|vX O fun a hF=>?_
       refine aH ?_
       rw [← hsq] at hF
       rw [show qX ca.opn ca.clo q=2 from (if_neg m1_).trans (if_pos m2_)] at hvi
       exact ⟨i+1,ag,YW,ag,hY.same (by rw [List.append_assoc,← uZ hvi]),hF.keep [75,4,6,12,73,74] rfl,hA45⟩
      ·refine au hF O (decide_eq_false m2_) ?_
       apply wp_skip
       refine hK30 _ _ ?_
       refine wp_region_lit ?_
       refine vR hF<|vX O<|vX O fun a hF=>?_
       refine ax O (fun K hK=>ay hF O ae A8 rfl rfl ?_)
       with_reducible refine (fP w0 _ ([row b4 52 ca.cells]::R) wb _ _ 0 ae 0 O hY hA43 (by rw [List.length_append]; omega)).mono ?_
       rintro e' w46 ⟨YW,rfl,hY,hA47⟩
       refine ⟨_,rfl,fun a hF=>hK _ _ ?_⟩
       replace hA47:Hp w0 (YW::[row b4 52 ca.cells]::R) w46:=hA47
       refine aH<|hK27 _ _ ?_
       refine wp_region_lit ?_
       refine vR hF<|vV O (bT O O O (Np _ ag))<|vX O fun a hF=>?_
       refine aH ?_
       rw [← hsq] at hF
       rw [show qX ca.opn ca.clo q=0 from (if_neg m1_).trans (if_neg m2_)] at hvi
       exact ⟨i+1,ag,YW,ag,hY.same (by rw [List.append_assoc,← uZ hvi]),hF.keep [75,4,6,12,73,74] rfl,hA47⟩
    ·refine au hF O (dE ag) ?_
     obtain rfl:i=l2.length:=by omega
     rw [← hll,List.take_length] at hY
     clear hpl2
     have hpl2:(lf.flatMap (be 1)).length≤64:=by rw [pg (k:=1) (fun x=>bf 1 x)]; omega
     obtain ⟨m4,hm4⟩:∃ m4,m4=m3++lf.flatMap (be 1):=⟨_,rfl⟩
     rw [← hm4] at hY
     have hn4:m4.length≤4202862:=by rw [hm4,List.length_append]; omega
     apply wp_exit
     refine hK23 _ _ ?_
     refine wS hF fun K33 hK33=>vX O<|vX O<|vV O (aT O Nk O O)<|vV O (bW O NC NY O (show IntKind.u16.wrap ((l3.length:Nat):Int)=((l3.length:Nat):Int) by rw [IntKind.wrap_u16]; omega)) fun a hF=>?_
     refine ax O (fun K hK=>ay hF O ae AU rfl rfl ?_)
     with_reducible refine (gX w0 _ ([row b4 52 ca.cells]::R) wb _ _ l3.length (by show l3.length<65536; omega) _ O hY hA36 ag).mono ?_
     rintro e' w48 ⟨Y6,rfl,hY,hA49⟩
     refine ⟨_,rfl,fun a hF=>hK _ _ ?_⟩
     replace hA49:Hp w0 (Y6::[row b4 52 ca.cells]::R) w48:=hA49
     refine aH<|hK33 _ _ ?_
     apply wp_seq_k; intro K34 hK34
     refine wS hF fun K35 hK35=>vX O<|vV O (aT O Nk O O)<|vX O<|vE hK35<|wBk fun a hF=>?_
     obtain ⟨m5,hm5⟩:∃ m5,m5=m4++be 2 l3.length:=⟨_,rfl⟩
     rw [← hm5] at hY
     have hn5:m5.length≤4202864:=by rw [hm5,List.length_append,bf]; omega
     refine bH (G:=Nat) (fun i a x=>∃ (YV:Seg),i≤l3.length∧WrS wb (m5++(mk.take i).flatMap nV) YV∧Fr 113 [(100,.int .i64 (i:Int)),(6,.pointer (some ⟨b4,0,none⟩)),(12,.pointer (some ⟨wb,0,none⟩)),(98,.slice A3 l3.length c3),(99,.int .i64 l3.length)] a∧Hp w0 (YV::[row b4 52 ca.cells]::R) x) (fun i=>l3.length-i) 0 (⟨_,Nl _,(hY.same (List.append_nil _).symm),hF.keep [100,6,12,98,99] rfl,hA49⟩) ?_
     clear hF
     rintro i a w51 ⟨YV,hi,hY,hF,hA50⟩
     refine wS hF fun K36 hK36=>vV O (aF O O O O O)<|vE hK36<|wQ fun K37 hK37 a hF=>?_
     have hpl3:((mk.take i).flatMap nV).length≤64:=by rw [pg (k:=1) (fun _=>rfl),List.length_take]; omega
     by_cases hlt:i<l3.length
     ·refine aG hF O (dF ag) ?_
      obtain ⟨q,hpq⟩:∃ q,l3[i]? = some q:=⟨_,List.getElem?_eq_getElem hlt⟩
      obtain ⟨bq,oq,hsq,hcq⟩:=h3.ne (i:=i) (by rw [List.length_map]; exact hlt)
      rw [hsq] at hF
      have hvi:mk[i]? = some (decide (q∈ca.rea)):=by rw [hmk,List.getElem?_map,hpq]; rfl
      apply wp_skip
      refine hK37 _ _ ?_
      apply wp_seq_k; intro K38 hK38
      apply wp_block
      refine wS hF fun K39 hK39=>vV O (aY O Nk uC O O i rfl hlt (ad2 _ _ _))<|vV O (bV (u:=aj q) rfl (Hq.sub hA50.q (List.Subset.trans hG (bM (bM (dR))))) O hcq i (by rw [List.length_map]; exact hlt) rfl (by rw [List.getElem?_map,hpq]; rfl) uV) fun a hF=>?_
      refine vR hF<|vX O<|vE hK39 fun a hF=>?_
      refine wp_region_lit ?_
      refine vR hF<|vX O<|vV O (yf 38 rfl NL O mf O)<|vV O (aU (u:= .slice ca.rA ca.rea.length ca.rC) rfl hA50.q O 1 O (Bl h32 3) mi)<|vX O fun a hF=>?_
      refine ax O (fun K hK=>ay hF O ae rU rfl rfl ?_)
      with_reducible refine (lD ca.rA ca.rea ca.rC q _ hC.rer (List.Subset.trans hG (bM (bM (dR)))) hC.rel hA50).mono ?_
      rintro e' w52 ⟨rfl,hA53⟩
      refine ⟨_,rfl,fun a hF=>hK _ _ ?_⟩
      replace hA53:Hp w0 (YV::[row b4 52 ca.cells]::R) w52:=hA53
      refine ax O (fun K hK=>ay hF O ae IV rfl rfl ?_)
      with_reducible refine (Aq w0 _ ([row b4 52 ca.cells]::R) wb _ _ (decide (q∈ca.rea)) hY hA53 (by rw [List.length_append]; omega)).mono ?_
      rintro e' w54 ⟨YW,rfl,hY,hA55⟩
      refine ⟨_,rfl,fun a hF=>hK _ _ ?_⟩
      replace hA55:Hp w0 (YW::[row b4 52 ca.cells]::R) w54:=hA55
      refine aH<|hK38 _ _ ?_
      refine wp_region_lit ?_
      refine vR hF<|vV O (bT O O O (Np _ ag))<|vX O fun a hF=>?_
      refine aH ?_
      rw [← hsq] at hF
      exact ⟨i+1,ag,YW,ag,hY.same (by rw [List.append_assoc,Ib hvi]; rfl),hF.keep [100,6,12,98,99] rfl,hA55⟩
     ·refine au hF O (dE ag) ?_
      obtain rfl:i=l3.length:=by omega
      rw [← hml,List.take_length] at hY
      clear hpl3
      have hpl3:(mk.flatMap nV).length≤64:=by rw [pg (k:=1) (fun _=>rfl)]; omega
      apply wp_exit
      refine hK34 _ _ ?_
      refine wS hF fun K40 hK40=>vX O fun a hF=>?_
      refine ax O (fun K hK=>ay hF O ae Jc rfl rfl ?_)
      with_reducible refine (zq w0 _ ([row b4 52 ca.cells]::R) wb _ _ hY hA50 (by rw [List.length_append]; omega)).mono ?_
      rintro e' w56 ⟨vA,ZA,YE,rfl,hZ,hY,hA57⟩
      refine ⟨_,rfl,fun a hF=>hK _ _ ?_⟩
      replace hA57:Hp w0 (ZA::YE::[row b4 52 ca.cells]::R) w56:=hA57
      refine vR hF<|vX O<|vX O<|vE hK40 fun a hF=>?_
      apply wp_ret
      refine gG hF Tryz.results24 O O ?_
      have hA58:Hp w0 (ZA::R) w56:=hpS 3 [0] [1,2] hA57 rfl
      have e0:stE ca.typ vs l1.length l2.length l3.length=0:=e1.trans hfr
      rw [e0]
      refine ⟨_,ZA,rfl,?_,hA58⟩
      rw [yP (by rw [← hvs,e0]),← hvs,← hlf,← hmk]
      rw [show stB ca.typ n ch vs lf mk=m5++mk.flatMap nV by rw [hm5,hm4,hm3,hm2,hm1e,hm0,← hvl,← hll,← hml]; rfl]
      exact hZ
end Go.Proofs.YtepbmdlgdaedpaaGreatDoor
