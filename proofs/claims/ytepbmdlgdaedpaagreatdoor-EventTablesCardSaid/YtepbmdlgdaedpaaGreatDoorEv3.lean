/- An event's fields: which there are, whether what is not is zero, what is refused. -/
import Derived.Test.YtepbmdlgdaedpaaGreatDoorEv2
import Derived.Test.YtepbmdlgdaedpaaGreatDoorRx
/- An event's fields: which there are, whether what is not is zero, what is refused. -/
namespace Go.Proofs.YtepbmdlgdaedpaaGreatDoor
open Go.RowKit Go.Dk
theorem lQ:bu Tryz.prog 4=true:=af
theorem xh:bu Tryz.prog 26=true:=af
theorem JS:isRow Tryz.prog 31 44=true:=af
theorem kG:isRow Tryz.prog 129 6=true:=af
theorem lL:(Tryz.prog.info? 4).map (·.size)=some 1:=af
theorem oJ:(Tryz.prog.info? 25).map (·.size)=some 4:=af
theorem wO:(Tryz.prog.info? 26).map (·.size)=some 1:=af
theorem lh:(Tryz.prog.info? 129).map (·.size)=some 6:=af
theorem Dx:aP Tryz.prog 87:=⟨_,Tryz.func87,af,af⟩
theorem Jk:aP Tryz.prog 101:=⟨_,Tryz.func101,af,af⟩
theorem Jh:aP Tryz.prog 135:=⟨_,Tryz.func135,af,af⟩
theorem Jg:aP Tryz.prog 136:=⟨_,Tryz.func136,af,af⟩
theorem Cf:bQ Tryz.prog 25 (.agg ([.int .i64 0,.int .i64 0,.string (⟨#[]⟩),.slice none 0 0]:List Value).toArray):=by unfold bQ; kernel_rfl
theorem FQ:bQ Tryz.prog 129 (.agg ([.bool false,.bool false,.bool false,.bool false,.bool false,.bool false]:List Value).toArray):=by unfold bQ; kernel_rfl
theorem Pg (w:World):(Instr.build 129 #[(0,.bool true),(5,.bool true)]).run Tryz.prog w= .ok (.agg ([.bool true,.bool false,.bool false,.bool false,.bool false,.bool true]:List Value).toArray) w:=af
theorem Pe (w:World):(Instr.build 129 #[(1,.bool true),(0,.bool true)]).run Tryz.prog w= .ok (.agg ([.bool true,.bool true,.bool false,.bool false,.bool false,.bool false]:List Value).toArray) w:=af
theorem Oc (w:World):(Instr.build 129 #[(1,.bool true),(2,.bool true),(3,.bool true)]).run Tryz.prog w= .ok (.agg ([.bool false,.bool true,.bool true,.bool true,.bool false,.bool false]:List Value).toArray) w:=af
theorem Ob (w:World):(Instr.build 129 #[(1,.bool true),(2,.bool true),(4,.bool true)]).run Tryz.prog w= .ok (.agg ([.bool false,.bool true,.bool true,.bool false,.bool true,.bool false]:List Value).toArray) w:=af
theorem fb_ (w:World):(Instr.build 129 #[]).run Tryz.prog w= .ok (.agg ([.bool false,.bool false,.bool false,.bool false,.bool false,.bool false]:List Value).toArray) w:=af
def uK (op:Int):List Value:=if kJ op then (gI op).cells else noFld.cells
theorem O9 {op:Int} (h:op=1):(.returned (.tuple #[.agg (uK op).toArray,.bool (decide (kJ op))]):Ending)= .returned (.tuple #[.agg ([.bool true,.bool false,.bool false,.bool false,.bool false,.bool true]:List Value).toArray,.bool true]):=by subst h; rfl
theorem O8 {op:Int} (h:op=2):(.returned (.tuple #[.agg (uK op).toArray,.bool (decide (kJ op))]):Ending)= .returned (.tuple #[.agg ([.bool true,.bool true,.bool false,.bool false,.bool false,.bool false]:List Value).toArray,.bool true]):=by subst h; rfl
theorem O7 {op:Int} (h:op=3):(.returned (.tuple #[.agg (uK op).toArray,.bool (decide (kJ op))]):Ending)= .returned (.tuple #[.agg ([.bool false,.bool true,.bool true,.bool true,.bool false,.bool false]:List Value).toArray,.bool true]):=by subst h; rfl
theorem O6 {op:Int} (h:op=4):(.returned (.tuple #[.agg (uK op).toArray,.bool (decide (kJ op))]):Ending)= .returned (.tuple #[.agg ([.bool false,.bool true,.bool true,.bool false,.bool true,.bool false]:List Value).toArray,.bool true]):=by subst h; rfl
theorem O5 {op:Int} (h:op=5):(.returned (.tuple #[.agg (uK op).toArray,.bool (decide (kJ op))]):Ending)= .returned (.tuple #[.agg ([.bool false,.bool false,.bool false,.bool false,.bool false,.bool false]:List Value).toArray,.bool true]):=by subst h; rfl
theorem O4 {op:Int} (h1:¬ op=1) (h2:¬ op=2) (h3:¬ op=3) (h4:¬ op=4) (h5:¬ op=5):(.returned (.tuple #[.agg (uK op).toArray,.bool (decide (kJ op))]):Ending)= .returned (.tuple #[.agg ([.bool false,.bool false,.bool false,.bool false,.bool false,.bool false]:List Value).toArray,.bool false]):=by
 have h:¬ kJ op:=fun hh=>by unfold kJ at hh; omega
 unfold uK
 rw [if_neg h,decide_eq_false h]
 rfl
set_option maxRecDepth 100000 in
set_option maxHeartbeats 2000000 in
theorem wu {w0:World} {R:List Seg} (op:Int) (w:World) (hA:Hp w0 R w):Calls Tryz.prog 72 #[.int .i64 op] w fun e w'=>e= .returned (.tuple #[.agg (uK op).toArray,.bool (decide (kJ op))])∧Hp w0 R w':=by
 refine aQ Tryz.func72 O Tryz.ntmps72 ai (fun a hF=>?_)
 refine wp_seq_k fun K1 hK1=>wp_region_lit ?_
 refine az O (fun K hK=>dG hF O ae rfl hA (FQ) (fun b1 w2 a hb1 hF hA3=>hK _ _ ?_))
 refine vR hF<|vX O<|vE hK1<|wQ fun K2 hK2=>wT fun K3 hK3=>vX O<|vE hK3<|wBk<|wT fun K4 hK4=>vV O (aB O O O O O)<|vX O<|vE hK4 fun a hF=>?_
 by_cases hk1:op=1
 ·refine aF hF O (fE ag) ?_
  refine wS hF fun K5 hK5=>vV O (fV (qs := #[(0,.bool true),(5,.bool true)]) O O Pg) fun a hF=>?_
  refine az O (fun K hK=>bz (new:=[.bool true,.bool false,.bool false,.bool false,.bool false,.bool true]) hF O O hA3 O O 0 O O (by simp [Value.oneCell']) lh (fun w4 hA5=>hK _ _ ?_))
  replace hA5:Hp w0 ([row b1 129 [.bool true,.bool false,.bool false,.bool false,.bool false,.bool true]]::R) w4:=hA5
  refine vR hF<|vX O<|vE hK5 fun a hF=>?_
  apply wp_ret
  simp only [Exit.then,Exit.inBlock]
  refine eQ hF Tryz.results72 hA5.q O O 0 O kG ?_
  have hA6:Hp w0 (R) w4:=hpS 1 [] [0] hA5 rfl
  exact ⟨by rw [O9 hk1],hA6⟩
 ·by_cases hk2:op=2
  ·refine au hF O (bM ag) ?_
   refine wS hF fun K6 hK6=>vV O (aB O O O O O)<|vX O<|vE hK6 fun a hF=>?_
   refine aF hF O (fE ag) ?_
   refine wS hF fun K7 hK7=>vV O (fV (qs := #[(1,.bool true),(0,.bool true)]) O O Pe) fun a hF=>?_
   refine az O (fun K hK=>bz (new:=[.bool true,.bool true,.bool false,.bool false,.bool false,.bool false]) hF O O hA3 O O 0 O O (by simp [Value.oneCell']) lh (fun w7 hA8=>hK _ _ ?_))
   replace hA8:Hp w0 ([row b1 129 [.bool true,.bool true,.bool false,.bool false,.bool false,.bool false]]::R) w7:=hA8
   refine vR hF<|vX O<|vE hK7 fun a hF=>?_
   apply wp_ret
   simp only [Exit.then,Exit.inBlock]
   refine eQ hF Tryz.results72 hA8.q O O 0 O kG ?_
   have hA9:Hp w0 (R) w7:=hpS 1 [] [0] hA8 rfl
   exact ⟨by rw [O8 hk2],hA9⟩
  ·by_cases hk3:op=3
   ·refine au hF O (bM ag) ?_
    refine wS hF fun K8 hK8=>vV O (aB O O O O O)<|vX O<|vE hK8 fun a hF=>?_
    refine au hF O (bM ag) ?_
    refine wS hF fun K9 hK9=>vV O (aB O O O O O)<|vX O<|vE hK9 fun a hF=>?_
    refine aF hF O (fE ag) ?_
    refine wS hF fun K10 hK10=>vV O (fV (qs := #[(1,.bool true),(2,.bool true),(3,.bool true)]) O O Oc) fun a hF=>?_
    refine az O (fun K hK=>bz (new:=[.bool false,.bool true,.bool true,.bool true,.bool false,.bool false]) hF O O hA3 O O 0 O O (by simp [Value.oneCell']) lh (fun w10 hA11=>hK _ _ ?_))
    replace hA11:Hp w0 ([row b1 129 [.bool false,.bool true,.bool true,.bool true,.bool false,.bool false]]::R) w10:=hA11
    refine vR hF<|vX O<|vE hK10 fun a hF=>?_
    apply wp_ret
    simp only [Exit.then,Exit.inBlock]
    refine eQ hF Tryz.results72 hA11.q O O 0 O kG ?_
    have hA12:Hp w0 (R) w10:=hpS 1 [] [0] hA11 rfl
    exact ⟨by rw [O7 hk3],hA12⟩
   ·by_cases hk4:op=4
    ·refine au hF O (bM ag) ?_
     refine wS hF fun K11 hK11=>vV O (aB O O O O O)<|vX O<|vE hK11 fun a hF=>?_
     refine au hF O (bM ag) ?_
     refine wS hF fun K12 hK12=>vV O (aB O O O O O)<|vX O<|vE hK12 fun a hF=>?_
     refine au hF O (bM ag) ?_
     refine wS hF fun K13 hK13=>vV O (aB O O O O O)<|vX O<|vE hK13 fun a hF=>?_
     refine aF hF O (fE ag) ?_
     refine wS hF fun K14 hK14=>vV O (fV (qs := #[(1,.bool true),(2,.bool true),(4,.bool true)]) O O Ob) fun a hF=>?_
     refine az O (fun K hK=>bz (new:=[.bool false,.bool true,.bool true,.bool false,.bool true,.bool false]) hF O O hA3 O O 0 O O (by simp [Value.oneCell']) lh (fun w13 hA14=>hK _ _ ?_))
     replace hA14:Hp w0 ([row b1 129 [.bool false,.bool true,.bool true,.bool false,.bool true,.bool false]]::R) w13:=hA14
     refine vR hF<|vX O<|vE hK14 fun a hF=>?_
     apply wp_ret
     simp only [Exit.then,Exit.inBlock]
     refine eQ hF Tryz.results72 hA14.q O O 0 O kG ?_
     have hA15:Hp w0 (R) w13:=hpS 1 [] [0] hA14 rfl
     exact ⟨by rw [O6 hk4],hA15⟩
    ·by_cases hk5:op=5
     ·refine au hF O (bM ag) ?_
      refine wS hF fun K15 hK15=>vV O (aB O O O O O)<|vX O<|vE hK15 fun a hF=>?_
      refine au hF O (bM ag) ?_
      refine wS hF fun K16 hK16=>vV O (aB O O O O O)<|vX O<|vE hK16 fun a hF=>?_
      refine au hF O (bM ag) ?_
      refine wS hF fun K17 hK17=>vV O (aB O O O O O)<|vX O<|vE hK17 fun a hF=>?_
      refine au hF O (bM ag) ?_
      refine wS hF fun K18 hK18=>vV O (aB O O O O O)<|vX O<|vE hK18 fun a hF=>?_
      refine aF hF O (fE ag) ?_
      refine wS hF fun K19 hK19=>vV O (gu O fb_) fun a hF=>?_
      refine az O (fun K hK=>bz (new:=[.bool false,.bool false,.bool false,.bool false,.bool false,.bool false]) hF O O hA3 O O 0 O O (by simp [Value.oneCell']) lh (fun w16 hA17=>hK _ _ ?_))
      replace hA17:Hp w0 ([row b1 129 [.bool false,.bool false,.bool false,.bool false,.bool false,.bool false]]::R) w16:=hA17
      refine vR hF<|vX O<|vE hK19 fun a hF=>?_
      apply wp_ret
      simp only [Exit.then,Exit.inBlock]
      refine eQ hF Tryz.results72 hA17.q O O 0 O kG ?_
      have hA18:Hp w0 (R) w16:=hpS 1 [] [0] hA17 rfl
      exact ⟨by rw [O5 hk5],hA18⟩
     ·refine au hF O (bM ag) ?_
      refine wS hF fun K20 hK20=>vV O (aB O O O O O)<|vX O<|vE hK20 fun a hF=>?_
      refine au hF O (bM ag) ?_
      refine wS hF fun K21 hK21=>vV O (aB O O O O O)<|vX O<|vE hK21 fun a hF=>?_
      refine au hF O (bM ag) ?_
      refine wS hF fun K22 hK22=>vV O (aB O O O O O)<|vX O<|vE hK22 fun a hF=>?_
      refine au hF O (bM ag) ?_
      refine wS hF fun K23 hK23=>vV O (aB O O O O O)<|vX O<|vE hK23 fun a hF=>?_
      refine au hF O (bM ag) ?_
      apply wp_skip
      refine hK2 _ _ ?_
      refine wS hF fun K24 hK24=>vV O (gu O fb_) fun a hF=>?_
      refine az O (fun K hK=>bz (new:=[.bool false,.bool false,.bool false,.bool false,.bool false,.bool false]) hF O O hA3 O O 0 O O (by simp [Value.oneCell']) lh (fun w19 hA20=>hK _ _ ?_))
      replace hA20:Hp w0 ([row b1 129 [.bool false,.bool false,.bool false,.bool false,.bool false,.bool false]]::R) w19:=hA20
      refine vR hF<|vX O<|vE hK24 fun a hF=>?_
      apply wp_ret
      refine eQ hF Tryz.results72 hA20.q O O 0 O kG ?_
      have hA21:Hp w0 (R) w19:=hpS 1 [] [0] hA20 rfl
      exact ⟨by rw [O4 hk1 hk2 hk3 hk4 hk5],hA21⟩
structure EA where
 op:Int
 num:Int
 clk:Int
 typ:List UInt8
 cas:List UInt8
 nam:List UInt8
 v:VA
 args:List VA
 aA:Option Addr
 aC:Nat
 src:List UInt8
 bA:Option Addr
 bC:Nat
 eff:List UInt8
abbrev EA.cells (e:EA):List Value:=[.int .i64 e.op,.int .i64 e.num,.int .i64 e.clk,ak e.typ,ak e.cas,ak e.nam,.int .i64 e.v.v.k,.int .i64 e.v.v.n,ak e.v.v.t,.slice e.v.sA e.v.v.s.length e.v.sC,.slice e.aA e.args.length e.aC,.slice e.bA e.src.length e.bC]++dc e.eff
def EA.ev (e:EA):Ev:=⟨e.op,e.num,e.clk,e.typ,e.cas,e.nam,e.v.v,e.args.map VA.v,e.src,e.eff⟩
abbrev rf (l:List VA):List Value:=(l.map VA.cells).flatten
structure EA.Ok (w0:World) (G:List Seg) (e:EA):Prop where
 v:e.v.Ok w0 G
 args:∀ a∈e.args,a.Ok w0 G
 rc:Rc w0 G e.aA (rf e.args)
 n:e.args.length≤9223372036854775807
 src:Rd w0 G e.bA e.src
 sn:e.src.length≤9223372036854775807
 i:e.ev.In
theorem rD (l:List UInt8):bI .eql l []=decide (l=[]):=by
 unfold bI
 rw [Bool.eq_iff_iff]
 simp
theorem len_nil {α:Type} (l:List α):aN .eql ((l.length:Nat):Int) 0=decide (l=[]):=by
 unfold aN
 rw [Bool.eq_iff_iff]
 simp
theorem Dh (z:Int):aN .eql z 0=decide (z=0):=by
 unfold aN
 rw [Bool.eq_iff_iff]
 simp
theorem Gh (ea:EA) (f:Fld):(((((((f.typed) || (bI .eql ea.typ [])) && ((f.cased) || (bI .eql ea.cas []))) && ((f.named) || (bI .eql ea.nam []))) && ((f.valued) || ((((aN .eql (ea.v.v.k) (0)) && (aN .eql (ea.v.v.n) (0))) && (bI .eql ea.v.v.t [])) && (aN .eql (ea.v.v.s.length) (0))))) && ((f.args) || (aN .eql (ea.args.length) (0)))) && ((f.source) || (aN .eql (ea.src.length) (0))))=dH ea.ev f:=by
 rw [rD,rD,rD,rD,Dh,Dh,len_nil,len_nil,len_nil]
 unfold dH Val.nothing EA.ev
 simp only [Bool.decide_and,List.map_eq_nil_iff,Bool.and_assoc]
set_option maxRecDepth 100000 in
set_option maxHeartbeats 2000000 in
theorem Ii {w0:World} {R:List Seg} {G:List Seg} (ea:EA) (f:Fld) (w:World) (hV:ea.Ok w0 G) (hG:G⊆R) (hA:Hp w0 R w):Calls Tryz.prog 135 #[.agg ea.cells.toArray,.agg f.cells.toArray] w fun e w'=>e= .returned (.bool (dH ea.ev f))∧Hp w0 R w':=by
 have he32:ea.eff.length=32:=hV.i.2.2.2.2.2
 have hn:=hV.n
 have hsn:=hV.sn
 have hvn:=hV.v.n
 refine aQ Tryz.func135 O Tryz.ntmps135 ai (fun a hF=>?_)
 refine wp_seq_k fun K1 hK1=>wp_region_lit ?_
 refine az O (fun K hK=>fU (cs:=ea.cells) hF O ae rfl hA O (fun b1 w2 a hb1 hF hA3=>hK _ _ ?_))
 refine az O (fun K hK=>fU (cs:=[.bool f.typed,.bool f.cased,.bool f.named,.bool f.valued,.bool f.args,.bool f.source]) hF O ae rfl hA3 O (fun b4 w5 a hb4 hF hA6=>hK _ _ ?_))
 refine vR hF<|vX O<|vE hK1<|wT fun K2 hK2=>vV O (yf 6 O Qd O oJ O)<|vV O (dU (new:=[.int .i64 ea.v.v.k,.int .i64 ea.v.v.n,ak ea.v.v.t,.slice ea.v.sA ea.v.v.s.length ea.v.sC]) O hA6.q O 1 O JV (by rw [List.length_append]; exact Nat.le_add_right_of_le ai) rfl) fun a hF=>?_
 refine az O (fun K hK=>dG hF O ae rfl hA6 (Cf) (fun b7 w8 a hb7 hF hA9=>hK _ _ ?_))
 refine az O (fun K hK=>bz (new:=[.int .i64 ea.v.v.k,.int .i64 ea.v.v.n,ak ea.v.v.t,.slice ea.v.sA ea.v.v.s.length ea.v.sC]) hF O O hA9 O O 0 O O (by simp [Value.oneCell']) oJ (fun w10 hA11=>hK _ _ ?_))
 replace hA11:Hp w0 ([row b7 25 [.int .i64 ea.v.v.k,.int .i64 ea.v.v.n,ak ea.v.v.t,.slice ea.v.sA ea.v.v.s.length ea.v.sC]]::[row b4 129 [.bool f.typed,.bool f.cased,.bool f.named,.bool f.valued,.bool f.args,.bool f.source]]::[row b1 31 ([.int .i64 ea.op,.int .i64 ea.num,.int .i64 ea.clk,ak ea.typ,ak ea.cas,ak ea.nam,.int .i64 ea.v.v.k,.int .i64 ea.v.v.n,ak ea.v.v.t,.slice ea.v.sA ea.v.v.s.length ea.v.sC,.slice ea.aA ea.args.length ea.aC,.slice ea.bA ea.src.length ea.bC]++dc ea.eff)]::R) w10:=hA11
 refine aG<|hK2 _ _ ?_
 refine wS hF fun K3 hK3=>vV O (yf 0 O Qe O lL O)<|vV O (bi O hA11.q O 1 O O lQ)<|vX O fun a hF=>?_
 refine bK (l2:=?lA1) hF [(14,.bool ((f.typed) || (bI .eql ea.typ []))),(0,.agg (ea.cells).toArray),(1,.agg ([.bool f.typed,.bool f.cased,.bool f.named,.bool f.valued,.bool f.args,.bool f.source]).toArray),(2,.pointer (some ⟨b1,0,none⟩)),(3,.pointer (some ⟨b4,0,none⟩)),(4,.bool false),(6,.pointer (some ⟨b1,6,none⟩)),(7,.agg ([.int .i64 ea.v.v.k,.int .i64 ea.v.v.n,ak ea.v.v.t,.slice ea.v.sA ea.v.v.s.length ea.v.sC]).toArray),(5,.pointer (some ⟨b7,0,none⟩))] (fun hJ1=>?elA1) (fun a hF=>?flA1)
 case elA1 =>
  rcases tf (f.typed) with hg1 | hg1
  ·refine aK hF O O O O (aj hg1) ae _ (yf 3 O Qd O wK O) (fun a hF=>?_)
   refine aK hF O O O O (aj hg1) ae _ (bi O hA11.q O 2 O O wZ) (fun a hF=>?_)
   refine aK hF O O O O (aj hg1) ae _ (fJ O O O O O) (fun a hF=>?_)
   refine vR hF<|vV O (aZ hg1 rfl rfl rfl) fun a hF=>?_
   exact hJ1 _ ((hF.keep [14,0,1,2,3,4,6,7,5] (F':=[(14,_),(0,_),(1,_),(2,_),(3,_),(4,_),(6,_),(7,_),(5,_)]) O).bool (by rw [hg1]; rfl))
  ·refine aH hF O O O O O (aJ hg1) ae (fun a hF=>?_)
   refine aH hF O O O O O (aJ hg1) ae (fun a hF=>?_)
   refine aH hF O O O O O (aJ hg1) ae (fun a hF=>?_)
   refine vR hF<|vV O (bD hg1 rfl rfl rfl) fun a hF=>?_
   exact hJ1 _ ((hF.keep [14,0,1,2,3,4,6,7,5] (F':=[(14,_),(0,_),(1,_),(2,_),(3,_),(4,_),(6,_),(7,_),(5,_)]) O).bool (by rw [hg1]; rfl))
 refine vR hF<|vX O fun a hF=>?_
 refine bK (l2:=?lA2) hF [(23,.bool (((f.typed) || (bI .eql ea.typ [])) && ((f.cased) || (bI .eql ea.cas [])))),(0,.agg (ea.cells).toArray),(1,.agg ([.bool f.typed,.bool f.cased,.bool f.named,.bool f.valued,.bool f.args,.bool f.source]).toArray),(2,.pointer (some ⟨b1,0,none⟩)),(3,.pointer (some ⟨b4,0,none⟩)),(4,.bool false),(6,.pointer (some ⟨b1,6,none⟩)),(7,.agg ([.int .i64 ea.v.v.k,.int .i64 ea.v.v.n,ak ea.v.v.t,.slice ea.v.sA ea.v.v.s.length ea.v.sC]).toArray),(5,.pointer (some ⟨b7,0,none⟩))] (fun hJ2=>?elA2) (fun a hF=>?flA2)
 case elA2 =>
  rcases tf ((f.typed) || (bI .eql ea.typ [])) with hg2 | hg2
  ·refine aH hF O O O O O (aJ hg2) ae (fun a hF=>?_)
   refine aH hF O O O O O (aJ hg2) ae (fun a hF=>?_)
   refine aH hF O O O O O (aJ hg2) ae (fun a hF=>?_)
   refine bg hF O O O O O ae (fun a hF=>?_)
   refine bg hF O O O O O ae (fun a hF=>?_)
   refine bg hF O O O O O ae (fun a hF=>?_)
   refine aH hF O O O O O (aJ hg2) ae (fun a hF=>?_)
   refine vR hF<|vV O (aZ hg2 rfl rfl rfl) fun a hF=>?_
   exact hJ2 _ ((hF.keep [23,0,1,2,3,4,6,7,5] (F':=[(23,_),(0,_),(1,_),(2,_),(3,_),(4,_),(6,_),(7,_),(5,_)]) O).bool (by rw [hg2]; rfl))
  ·refine aK hF O O O O (aj hg2) ae _ (yf 1 O Qe O lL O) (fun a hF=>?_)
   refine aK hF O O O O (aj hg2) ae _ (bi O hA11.q O 1 O O lQ) (fun a hF=>?_)
   refine aK hF O O O O (aj hg2) ae _ (aV O O) (fun a hF=>?_)
   refine bK (l2:=?lA3) hF [(22,.bool ((f.cased) || (bI .eql ea.cas []))),(0,.agg (ea.cells).toArray),(1,.agg ([.bool f.typed,.bool f.cased,.bool f.named,.bool f.valued,.bool f.args,.bool f.source]).toArray),(2,.pointer (some ⟨b1,0,none⟩)),(3,.pointer (some ⟨b4,0,none⟩)),(4,.bool false),(6,.pointer (some ⟨b1,6,none⟩)),(7,.agg ([.int .i64 ea.v.v.k,.int .i64 ea.v.v.n,ak ea.v.v.t,.slice ea.v.sA ea.v.v.s.length ea.v.sC]).toArray),(5,.pointer (some ⟨b7,0,none⟩)),(15,.bool ((f.typed) || (bI .eql ea.typ [])))] (fun hJ3=>?elA3) (fun a hF=>?flA3)
   case elA3 =>
    rcases tf (f.cased) with hg3 | hg3
    ·refine aK hF O O O O (aj hg3) ae _ (yf 4 O Qd O wK O) (fun a hF=>?_)
     refine aK hF O O O O (aj hg3) ae _ (bi O hA11.q O 2 O O wZ) (fun a hF=>?_)
     refine aK hF O O O O (aj hg3) ae _ (fJ O O O O O) (fun a hF=>?_)
     refine aK hF O O O O (aj hg2) ae _ (aZ hg3 rfl rfl rfl) (fun a hF=>?_)
     exact hJ3 _ ((hF.keep [22,0,1,2,3,4,6,7,5,15] (F':=[(22,_),(0,_),(1,_),(2,_),(3,_),(4,_),(6,_),(7,_),(5,_),(15,_)]) O).bool (by rw [hg3]; rfl))
    ·refine aH hF O O O O O (aJ hg3) ae (fun a hF=>?_)
     refine aH hF O O O O O (aJ hg3) ae (fun a hF=>?_)
     refine aH hF O O O O O (aJ hg3) ae (fun a hF=>?_)
     refine aK hF O O O O (aj hg2) ae _ (bD hg3 rfl rfl rfl) (fun a hF=>?_)
     exact hJ3 _ ((hF.keep [22,0,1,2,3,4,6,7,5,15] (F':=[(22,_),(0,_),(1,_),(2,_),(3,_),(4,_),(6,_),(7,_),(5,_),(15,_)]) O).bool (by rw [hg3]; rfl))
   refine vR hF<|vV O (bD hg2 rfl rfl rfl) fun a hF=>?_
   exact hJ2 _ ((hF.keep [23,0,1,2,3,4,6,7,5] (F':=[(23,_),(0,_),(1,_),(2,_),(3,_),(4,_),(6,_),(7,_),(5,_)]) O).bool (by rw [hg2]; rfl))
 refine vR hF<|vX O fun a hF=>?_
 refine bK (l2:=?lA4) hF [(32,.bool ((((f.typed) || (bI .eql ea.typ [])) && ((f.cased) || (bI .eql ea.cas []))) && ((f.named) || (bI .eql ea.nam [])))),(0,.agg (ea.cells).toArray),(1,.agg ([.bool f.typed,.bool f.cased,.bool f.named,.bool f.valued,.bool f.args,.bool f.source]).toArray),(2,.pointer (some ⟨b1,0,none⟩)),(3,.pointer (some ⟨b4,0,none⟩)),(4,.bool false),(6,.pointer (some ⟨b1,6,none⟩)),(7,.agg ([.int .i64 ea.v.v.k,.int .i64 ea.v.v.n,ak ea.v.v.t,.slice ea.v.sA ea.v.v.s.length ea.v.sC]).toArray),(5,.pointer (some ⟨b7,0,none⟩))] (fun hJ4=>?elA4) (fun a hF=>?flA4)
 case elA4 =>
  rcases tf (((f.typed) || (bI .eql ea.typ [])) && ((f.cased) || (bI .eql ea.cas []))) with hg4 | hg4
  ·refine aH hF O O O O O (aJ hg4) ae (fun a hF=>?_)
   refine aH hF O O O O O (aJ hg4) ae (fun a hF=>?_)
   refine aH hF O O O O O (aJ hg4) ae (fun a hF=>?_)
   refine bg hF O O O O O ae (fun a hF=>?_)
   refine bg hF O O O O O ae (fun a hF=>?_)
   refine bg hF O O O O O ae (fun a hF=>?_)
   refine aH hF O O O O O (aJ hg4) ae (fun a hF=>?_)
   refine vR hF<|vV O (aZ hg4 rfl rfl rfl) fun a hF=>?_
   exact hJ4 _ ((hF.keep [32,0,1,2,3,4,6,7,5] (F':=[(32,_),(0,_),(1,_),(2,_),(3,_),(4,_),(6,_),(7,_),(5,_)]) O).bool (by rw [hg4]; rfl))
  ·refine aK hF O O O O (aj hg4) ae _ (yf 2 O Qe O lL O) (fun a hF=>?_)
   refine aK hF O O O O (aj hg4) ae _ (bi O hA11.q O 1 O O lQ) (fun a hF=>?_)
   refine aK hF O O O O (aj hg4) ae _ (aV O O) (fun a hF=>?_)
   refine bK (l2:=?lA5) hF [(31,.bool ((f.named) || (bI .eql ea.nam []))),(0,.agg (ea.cells).toArray),(1,.agg ([.bool f.typed,.bool f.cased,.bool f.named,.bool f.valued,.bool f.args,.bool f.source]).toArray),(2,.pointer (some ⟨b1,0,none⟩)),(3,.pointer (some ⟨b4,0,none⟩)),(4,.bool false),(6,.pointer (some ⟨b1,6,none⟩)),(7,.agg ([.int .i64 ea.v.v.k,.int .i64 ea.v.v.n,ak ea.v.v.t,.slice ea.v.sA ea.v.v.s.length ea.v.sC]).toArray),(5,.pointer (some ⟨b7,0,none⟩)),(24,.bool (((f.typed) || (bI .eql ea.typ [])) && ((f.cased) || (bI .eql ea.cas []))))] (fun hJ5=>?elA5) (fun a hF=>?flA5)
   case elA5 =>
    rcases tf (f.named) with hg5 | hg5
    ·refine aK hF O O O O (aj hg5) ae _ (yf 5 O Qd O wK O) (fun a hF=>?_)
     refine aK hF O O O O (aj hg5) ae _ (bi O hA11.q O 2 O O wZ) (fun a hF=>?_)
     refine aK hF O O O O (aj hg5) ae _ (fJ O O O O O) (fun a hF=>?_)
     refine aK hF O O O O (aj hg4) ae _ (aZ hg5 rfl rfl rfl) (fun a hF=>?_)
     exact hJ5 _ ((hF.keep [31,0,1,2,3,4,6,7,5,24] (F':=[(31,_),(0,_),(1,_),(2,_),(3,_),(4,_),(6,_),(7,_),(5,_),(24,_)]) O).bool (by rw [hg5]; rfl))
    ·refine aH hF O O O O O (aJ hg5) ae (fun a hF=>?_)
     refine aH hF O O O O O (aJ hg5) ae (fun a hF=>?_)
     refine aH hF O O O O O (aJ hg5) ae (fun a hF=>?_)
     refine aK hF O O O O (aj hg4) ae _ (bD hg5 rfl rfl rfl) (fun a hF=>?_)
     exact hJ5 _ ((hF.keep [31,0,1,2,3,4,6,7,5,24] (F':=[(31,_),(0,_),(1,_),(2,_),(3,_),(4,_),(6,_),(7,_),(5,_),(24,_)]) O).bool (by rw [hg5]; rfl))
   refine vR hF<|vV O (bD hg4 rfl rfl rfl) fun a hF=>?_
   exact hJ4 _ ((hF.keep [32,0,1,2,3,4,6,7,5] (F':=[(32,_),(0,_),(1,_),(2,_),(3,_),(4,_),(6,_),(7,_),(5,_)]) O).bool (by rw [hg4]; rfl))
 refine vR hF<|vX O fun a hF=>?_
 refine bK (l2:=?lA6) hF [(57,.bool (((((f.typed) || (bI .eql ea.typ [])) && ((f.cased) || (bI .eql ea.cas []))) && ((f.named) || (bI .eql ea.nam []))) && ((f.valued) || ((((aN .eql (ea.v.v.k) (0)) && (aN .eql (ea.v.v.n) (0))) && (bI .eql ea.v.v.t [])) && (aN .eql (ea.v.v.s.length) (0)))))),(0,.agg (ea.cells).toArray),(1,.agg ([.bool f.typed,.bool f.cased,.bool f.named,.bool f.valued,.bool f.args,.bool f.source]).toArray),(2,.pointer (some ⟨b1,0,none⟩)),(3,.pointer (some ⟨b4,0,none⟩)),(4,.bool false),(6,.pointer (some ⟨b1,6,none⟩)),(7,.agg ([.int .i64 ea.v.v.k,.int .i64 ea.v.v.n,ak ea.v.v.t,.slice ea.v.sA ea.v.v.s.length ea.v.sC]).toArray),(5,.pointer (some ⟨b7,0,none⟩))] (fun hJ6=>?elA6) (fun a hF=>?flA6)
 case elA6 =>
  rcases tf ((((f.typed) || (bI .eql ea.typ [])) && ((f.cased) || (bI .eql ea.cas []))) && ((f.named) || (bI .eql ea.nam []))) with hg6 | hg6
  ·refine aH hF O O O O O (aJ hg6) ae (fun a hF=>?_)
   refine aH hF O O O O O (aJ hg6) ae (fun a hF=>?_)
   refine aH hF O O O O O (aJ hg6) ae (fun a hF=>?_)
   refine bg hF O O O O O ae (fun a hF=>?_)
   refine bg hF O O O O O ae (fun a hF=>?_)
   refine bg hF O O O O O ae (fun a hF=>?_)
   refine bg hF O O O O O ae (fun a hF=>?_)
   refine bg hF O O O O O ae (fun a hF=>?_)
   refine bg hF O O O O O ae (fun a hF=>?_)
   refine bg hF O O O O O ae (fun a hF=>?_)
   refine bg hF O O O O O ae (fun a hF=>?_)
   refine bg hF O O O O O ae (fun a hF=>?_)
   refine bg hF O O O O O ae (fun a hF=>?_)
   refine bg hF O O O O O ae (fun a hF=>?_)
   refine bg hF O O O O O ae (fun a hF=>?_)
   refine bg hF O O O O O ae (fun a hF=>?_)
   refine bg hF O O O O O ae (fun a hF=>?_)
   refine bg hF O O O O O ae (fun a hF=>?_)
   refine bg hF O O O O O ae (fun a hF=>?_)
   refine bg hF O O O O O ae (fun a hF=>?_)
   refine bg hF O O O O O ae (fun a hF=>?_)
   refine bg hF O O O O O ae (fun a hF=>?_)
   refine aH hF O O O O O (aJ hg6) ae (fun a hF=>?_)
   refine vR hF<|vV O (aZ hg6 rfl rfl rfl) fun a hF=>?_
   exact hJ6 _ ((hF.keep [57,0,1,2,3,4,6,7,5] (F':=[(57,_),(0,_),(1,_),(2,_),(3,_),(4,_),(6,_),(7,_),(5,_)]) O).bool (by rw [hg6]; rfl))
  ·refine aK hF O O O O (aj hg6) ae _ (yf 3 O Qe O lL O) (fun a hF=>?_)
   refine aK hF O O O O (aj hg6) ae _ (bi O hA11.q O 1 O O lQ) (fun a hF=>?_)
   refine aK hF O O O O (aj hg6) ae _ (aV O O) (fun a hF=>?_)
   refine bK (l2:=?lA7) hF [(56,.bool ((f.valued) || ((((aN .eql (ea.v.v.k) (0)) && (aN .eql (ea.v.v.n) (0))) && (bI .eql ea.v.v.t [])) && (aN .eql (ea.v.v.s.length) (0))))),(0,.agg (ea.cells).toArray),(1,.agg ([.bool f.typed,.bool f.cased,.bool f.named,.bool f.valued,.bool f.args,.bool f.source]).toArray),(2,.pointer (some ⟨b1,0,none⟩)),(3,.pointer (some ⟨b4,0,none⟩)),(4,.bool false),(6,.pointer (some ⟨b1,6,none⟩)),(7,.agg ([.int .i64 ea.v.v.k,.int .i64 ea.v.v.n,ak ea.v.v.t,.slice ea.v.sA ea.v.v.s.length ea.v.sC]).toArray),(5,.pointer (some ⟨b7,0,none⟩)),(33,.bool ((((f.typed) || (bI .eql ea.typ [])) && ((f.cased) || (bI .eql ea.cas []))) && ((f.named) || (bI .eql ea.nam []))))] (fun hJ7=>?elA7) (fun a hF=>?flA7)
   case elA7 =>
    rcases tf (f.valued) with hg7 | hg7
    ·refine aK hF O O O O (aj hg7) ae _ (yf 0 O Qc O jJ O) (fun a hF=>?_)
     refine aK hF O O O O (aj hg7) ae _ (bi O hA11.q O 0 O O jK) (fun a hF=>?_)
     refine aK hF O O O O (aj hg7) ae _ (aB O O O O O) (fun a hF=>?_)
     refine aK hF O O O O (aj hg7) ae _ (aV O O) (fun a hF=>?_)
     refine bK (l2:=?lA8) hF [(44,.bool ((aN .eql (ea.v.v.k) (0)) && (aN .eql (ea.v.v.n) (0)))),(0,.agg (ea.cells).toArray),(1,.agg ([.bool f.typed,.bool f.cased,.bool f.named,.bool f.valued,.bool f.args,.bool f.source]).toArray),(2,.pointer (some ⟨b1,0,none⟩)),(3,.pointer (some ⟨b4,0,none⟩)),(4,.bool false),(6,.pointer (some ⟨b1,6,none⟩)),(7,.agg ([.int .i64 ea.v.v.k,.int .i64 ea.v.v.n,ak ea.v.v.t,.slice ea.v.sA ea.v.v.s.length ea.v.sC]).toArray),(5,.pointer (some ⟨b7,0,none⟩)),(33,.bool ((((f.typed) || (bI .eql ea.typ [])) && ((f.cased) || (bI .eql ea.cas []))) && ((f.named) || (bI .eql ea.nam [])))),(36,.bool f.valued)] (fun hJ8=>?elA8) (fun a hF=>?flA8)
     case elA8 =>
      rcases tf (aN .eql (ea.v.v.k) (0)) with hg8 | hg8
      ·refine aH hF O O O O O (aJ hg8) ae (fun a hF=>?_)
       refine aH hF O O O O O (aJ hg8) ae (fun a hF=>?_)
       refine aH hF O O O O O (aJ hg8) ae (fun a hF=>?_)
       refine aK hF O O O O (aj hg7) ae _ (aZ hg8 rfl rfl rfl) (fun a hF=>?_)
       exact hJ8 _ ((hF.keep [44,0,1,2,3,4,6,7,5,33,36] (F':=[(44,_),(0,_),(1,_),(2,_),(3,_),(4,_),(6,_),(7,_),(5,_),(33,_),(36,_)]) O).bool (by rw [hg8]; rfl))
      ·refine aK hF O O O O (aj hg8) ae _ (yf 1 O Qc O jl O) (fun a hF=>?_)
       refine aK hF O O O O (aj hg8) ae _ (bi O hA11.q O 0 O O mV) (fun a hF=>?_)
       refine aK hF O O O O (aj hg8) ae _ (aB O O O O O) (fun a hF=>?_)
       refine aK hF O O O O (aj hg7) ae _ (bD hg8 rfl rfl rfl) (fun a hF=>?_)
       exact hJ8 _ ((hF.keep [44,0,1,2,3,4,6,7,5,33,36] (F':=[(44,_),(0,_),(1,_),(2,_),(3,_),(4,_),(6,_),(7,_),(5,_),(33,_),(36,_)]) O).bool (by rw [hg8]; rfl))
     refine aK hF O O O O (aj hg7) ae _ (aV O O) (fun a hF=>?_)
     refine bK (l2:=?lA9) hF [(49,.bool (((aN .eql (ea.v.v.k) (0)) && (aN .eql (ea.v.v.n) (0))) && (bI .eql ea.v.v.t []))),(0,.agg (ea.cells).toArray),(1,.agg ([.bool f.typed,.bool f.cased,.bool f.named,.bool f.valued,.bool f.args,.bool f.source]).toArray),(2,.pointer (some ⟨b1,0,none⟩)),(3,.pointer (some ⟨b4,0,none⟩)),(4,.bool false),(6,.pointer (some ⟨b1,6,none⟩)),(7,.agg ([.int .i64 ea.v.v.k,.int .i64 ea.v.v.n,ak ea.v.v.t,.slice ea.v.sA ea.v.v.s.length ea.v.sC]).toArray),(5,.pointer (some ⟨b7,0,none⟩)),(33,.bool ((((f.typed) || (bI .eql ea.typ [])) && ((f.cased) || (bI .eql ea.cas []))) && ((f.named) || (bI .eql ea.nam [])))),(36,.bool f.valued)] (fun hJ9=>?elA9) (fun a hF=>?flA9)
     case elA9 =>
      rcases tf ((aN .eql (ea.v.v.k) (0)) && (aN .eql (ea.v.v.n) (0))) with hg9 | hg9
      ·refine aH hF O O O O O (aJ hg9) ae (fun a hF=>?_)
       refine aH hF O O O O O (aJ hg9) ae (fun a hF=>?_)
       refine aH hF O O O O O (aJ hg9) ae (fun a hF=>?_)
       refine aK hF O O O O (aj hg7) ae _ (aZ hg9 rfl rfl rfl) (fun a hF=>?_)
       exact hJ9 _ ((hF.keep [49,0,1,2,3,4,6,7,5,33,36] (F':=[(49,_),(0,_),(1,_),(2,_),(3,_),(4,_),(6,_),(7,_),(5,_),(33,_),(36,_)]) O).bool (by rw [hg9]; rfl))
      ·refine aK hF O O O O (aj hg9) ae _ (yf 2 O Qc O wK O) (fun a hF=>?_)
       refine aK hF O O O O (aj hg9) ae _ (bi O hA11.q O 0 O O wZ) (fun a hF=>?_)
       refine aK hF O O O O (aj hg9) ae _ (fJ O O O O O) (fun a hF=>?_)
       refine aK hF O O O O (aj hg7) ae _ (bD hg9 rfl rfl rfl) (fun a hF=>?_)
       exact hJ9 _ ((hF.keep [49,0,1,2,3,4,6,7,5,33,36] (F':=[(49,_),(0,_),(1,_),(2,_),(3,_),(4,_),(6,_),(7,_),(5,_),(33,_),(36,_)]) O).bool (by rw [hg9]; rfl))
     refine aK hF O O O O (aj hg7) ae _ (aV O O) (fun a hF=>?_)
     refine bK (l2:=?lA10) hF [(55,.bool ((((aN .eql (ea.v.v.k) (0)) && (aN .eql (ea.v.v.n) (0))) && (bI .eql ea.v.v.t [])) && (aN .eql (ea.v.v.s.length) (0)))),(0,.agg (ea.cells).toArray),(1,.agg ([.bool f.typed,.bool f.cased,.bool f.named,.bool f.valued,.bool f.args,.bool f.source]).toArray),(2,.pointer (some ⟨b1,0,none⟩)),(3,.pointer (some ⟨b4,0,none⟩)),(4,.bool false),(6,.pointer (some ⟨b1,6,none⟩)),(7,.agg ([.int .i64 ea.v.v.k,.int .i64 ea.v.v.n,ak ea.v.v.t,.slice ea.v.sA ea.v.v.s.length ea.v.sC]).toArray),(5,.pointer (some ⟨b7,0,none⟩)),(33,.bool ((((f.typed) || (bI .eql ea.typ [])) && ((f.cased) || (bI .eql ea.cas []))) && ((f.named) || (bI .eql ea.nam [])))),(36,.bool f.valued)] (fun hJ10=>?elA10) (fun a hF=>?flA10)
     case elA10 =>
      rcases tf (((aN .eql (ea.v.v.k) (0)) && (aN .eql (ea.v.v.n) (0))) && (bI .eql ea.v.v.t [])) with hg10 | hg10
      ·refine aH hF O O O O O (aJ hg10) ae (fun a hF=>?_)
       refine aH hF O O O O O (aJ hg10) ae (fun a hF=>?_)
       refine aH hF O O O O O (aJ hg10) ae (fun a hF=>?_)
       refine aH hF O O O O O (aJ hg10) ae (fun a hF=>?_)
       refine aK hF O O O O (aj hg7) ae _ (aZ hg10 rfl rfl rfl) (fun a hF=>?_)
       exact hJ10 _ ((hF.keep [55,0,1,2,3,4,6,7,5,33,36] (F':=[(55,_),(0,_),(1,_),(2,_),(3,_),(4,_),(6,_),(7,_),(5,_),(33,_),(36,_)]) O).bool (by rw [hg10]; rfl))
      ·refine aK hF O O O O (aj hg10) ae _ (yf 3 O Qc O nz O) (fun a hF=>?_)
       refine aK hF O O O O (aj hg10) ae _ (bi O hA11.q O 0 O O nH) (fun a hF=>?_)
       refine aK hF O O O O (aj hg10) ae _ (aU O PY O O) (fun a hF=>?_)
       refine aK hF O O O O (aj hg10) ae _ (aB O O O O O) (fun a hF=>?_)
       refine aK hF O O O O (aj hg7) ae _ (bD hg10 rfl rfl rfl) (fun a hF=>?_)
       exact hJ10 _ ((hF.keep [55,0,1,2,3,4,6,7,5,33,36] (F':=[(55,_),(0,_),(1,_),(2,_),(3,_),(4,_),(6,_),(7,_),(5,_),(33,_),(36,_)]) O).bool (by rw [hg10]; rfl))
     refine aK hF O O O O (aj hg6) ae _ (aZ hg7 rfl rfl rfl) (fun a hF=>?_)
     exact hJ7 _ ((hF.keep [56,0,1,2,3,4,6,7,5,33] (F':=[(56,_),(0,_),(1,_),(2,_),(3,_),(4,_),(6,_),(7,_),(5,_),(33,_)]) O).bool (by rw [hg7]; rfl))
    ·refine aH hF O O O O O (aJ hg7) ae (fun a hF=>?_)
     refine aH hF O O O O O (aJ hg7) ae (fun a hF=>?_)
     refine aH hF O O O O O (aJ hg7) ae (fun a hF=>?_)
     refine aH hF O O O O O (aJ hg7) ae (fun a hF=>?_)
     refine bg hF O O O O O ae (fun a hF=>?_)
     refine bg hF O O O O O ae (fun a hF=>?_)
     refine bg hF O O O O O ae (fun a hF=>?_)
     refine aH hF O O O O O (aJ hg7) ae (fun a hF=>?_)
     refine aH hF O O O O O (aJ hg7) ae (fun a hF=>?_)
     refine bg hF O O O O O ae (fun a hF=>?_)
     refine bg hF O O O O O ae (fun a hF=>?_)
     refine bg hF O O O O O ae (fun a hF=>?_)
     refine aH hF O O O O O (aJ hg7) ae (fun a hF=>?_)
     refine aH hF O O O O O (aJ hg7) ae (fun a hF=>?_)
     refine bg hF O O O O O ae (fun a hF=>?_)
     refine bg hF O O O O O ae (fun a hF=>?_)
     refine bg hF O O O O O ae (fun a hF=>?_)
     refine bg hF O O O O O ae (fun a hF=>?_)
     refine aH hF O O O O O (aJ hg7) ae (fun a hF=>?_)
     refine aK hF O O O O (aj hg6) ae _ (bD hg7 rfl rfl rfl) (fun a hF=>?_)
     exact hJ7 _ ((hF.keep [56,0,1,2,3,4,6,7,5,33] (F':=[(56,_),(0,_),(1,_),(2,_),(3,_),(4,_),(6,_),(7,_),(5,_),(33,_)]) O).bool (by rw [hg7]; rfl))
   refine vR hF<|vV O (bD hg6 rfl rfl rfl) fun a hF=>?_
   exact hJ6 _ ((hF.keep [57,0,1,2,3,4,6,7,5] (F':=[(57,_),(0,_),(1,_),(2,_),(3,_),(4,_),(6,_),(7,_),(5,_)]) O).bool (by rw [hg6]; rfl))
 refine vR hF<|vX O fun a hF=>?_
 refine bK (l2:=?lA11) hF [(67,.bool ((((((f.typed) || (bI .eql ea.typ [])) && ((f.cased) || (bI .eql ea.cas []))) && ((f.named) || (bI .eql ea.nam []))) && ((f.valued) || ((((aN .eql (ea.v.v.k) (0)) && (aN .eql (ea.v.v.n) (0))) && (bI .eql ea.v.v.t [])) && (aN .eql (ea.v.v.s.length) (0))))) && ((f.args) || (aN .eql (ea.args.length) (0))))),(0,.agg (ea.cells).toArray),(1,.agg ([.bool f.typed,.bool f.cased,.bool f.named,.bool f.valued,.bool f.args,.bool f.source]).toArray),(2,.pointer (some ⟨b1,0,none⟩)),(3,.pointer (some ⟨b4,0,none⟩)),(4,.bool false),(6,.pointer (some ⟨b1,6,none⟩)),(7,.agg ([.int .i64 ea.v.v.k,.int .i64 ea.v.v.n,ak ea.v.v.t,.slice ea.v.sA ea.v.v.s.length ea.v.sC]).toArray),(5,.pointer (some ⟨b7,0,none⟩))] (fun hJ11=>?elA11) (fun a hF=>?flA11)
 case elA11 =>
  rcases tf (((((f.typed) || (bI .eql ea.typ [])) && ((f.cased) || (bI .eql ea.cas []))) && ((f.named) || (bI .eql ea.nam []))) && ((f.valued) || ((((aN .eql (ea.v.v.k) (0)) && (aN .eql (ea.v.v.n) (0))) && (bI .eql ea.v.v.t [])) && (aN .eql (ea.v.v.s.length) (0))))) with hg11 | hg11
  ·refine aH hF O O O O O (aJ hg11) ae (fun a hF=>?_)
   refine aH hF O O O O O (aJ hg11) ae (fun a hF=>?_)
   refine aH hF O O O O O (aJ hg11) ae (fun a hF=>?_)
   refine bg hF O O O O O ae (fun a hF=>?_)
   refine bg hF O O O O O ae (fun a hF=>?_)
   refine bg hF O O O O O ae (fun a hF=>?_)
   refine bg hF O O O O O ae (fun a hF=>?_)
   refine aH hF O O O O O (aJ hg11) ae (fun a hF=>?_)
   refine vR hF<|vV O (aZ hg11 rfl rfl rfl) fun a hF=>?_
   exact hJ11 _ ((hF.keep [67,0,1,2,3,4,6,7,5] (F':=[(67,_),(0,_),(1,_),(2,_),(3,_),(4,_),(6,_),(7,_),(5,_)]) O).bool (by rw [hg11]; rfl))
  ·refine aK hF O O O O (aj hg11) ae _ (yf 4 O Qe O lL O) (fun a hF=>?_)
   refine aK hF O O O O (aj hg11) ae _ (bi O hA11.q O 1 O O lQ) (fun a hF=>?_)
   refine aK hF O O O O (aj hg11) ae _ (aV O O) (fun a hF=>?_)
   refine bK (l2:=?lA12) hF [(66,.bool ((f.args) || (aN .eql (ea.args.length) (0)))),(0,.agg (ea.cells).toArray),(1,.agg ([.bool f.typed,.bool f.cased,.bool f.named,.bool f.valued,.bool f.args,.bool f.source]).toArray),(2,.pointer (some ⟨b1,0,none⟩)),(3,.pointer (some ⟨b4,0,none⟩)),(4,.bool false),(6,.pointer (some ⟨b1,6,none⟩)),(7,.agg ([.int .i64 ea.v.v.k,.int .i64 ea.v.v.n,ak ea.v.v.t,.slice ea.v.sA ea.v.v.s.length ea.v.sC]).toArray),(5,.pointer (some ⟨b7,0,none⟩)),(58,.bool (((((f.typed) || (bI .eql ea.typ [])) && ((f.cased) || (bI .eql ea.cas []))) && ((f.named) || (bI .eql ea.nam []))) && ((f.valued) || ((((aN .eql (ea.v.v.k) (0)) && (aN .eql (ea.v.v.n) (0))) && (bI .eql ea.v.v.t [])) && (aN .eql (ea.v.v.s.length) (0))))))] (fun hJ12=>?elA12) (fun a hF=>?flA12)
   case elA12 =>
    rcases tf (f.args) with hg12 | hg12
    ·refine aK hF O O O O (aj hg12) ae _ (yf 10 rfl Qd O wO O) (fun a hF=>?_)
     refine aK hF O O O O (aj hg12) ae _ (bi O hA11.q O 2 O O xh) (fun a hF=>?_)
     refine aK hF O O O O (aj hg12) ae _ (aU O Qg O O) (fun a hF=>?_)
     refine aK hF O O O O (aj hg12) ae _ (aB O O O O O) (fun a hF=>?_)
     refine aK hF O O O O (aj hg11) ae _ (aZ hg12 rfl rfl rfl) (fun a hF=>?_)
     exact hJ12 _ ((hF.keep [66,0,1,2,3,4,6,7,5,58] (F':=[(66,_),(0,_),(1,_),(2,_),(3,_),(4,_),(6,_),(7,_),(5,_),(58,_)]) O).bool (by rw [hg12]; rfl))
    ·refine aH hF O O O O O (aJ hg12) ae (fun a hF=>?_)
     refine aH hF O O O O O (aJ hg12) ae (fun a hF=>?_)
     refine aH hF O O O O O (aJ hg12) ae (fun a hF=>?_)
     refine aH hF O O O O O (aJ hg12) ae (fun a hF=>?_)
     refine aK hF O O O O (aj hg11) ae _ (bD hg12 rfl rfl rfl) (fun a hF=>?_)
     exact hJ12 _ ((hF.keep [66,0,1,2,3,4,6,7,5,58] (F':=[(66,_),(0,_),(1,_),(2,_),(3,_),(4,_),(6,_),(7,_),(5,_),(58,_)]) O).bool (by rw [hg12]; rfl))
   refine vR hF<|vV O (bD hg11 rfl rfl rfl) fun a hF=>?_
   exact hJ11 _ ((hF.keep [67,0,1,2,3,4,6,7,5] (F':=[(67,_),(0,_),(1,_),(2,_),(3,_),(4,_),(6,_),(7,_),(5,_)]) O).bool (by rw [hg11]; rfl))
 refine vR hF<|vX O fun a hF=>?_
 refine bK (l2:=?lA13) hF [(77,.bool (((((((f.typed) || (bI .eql ea.typ [])) && ((f.cased) || (bI .eql ea.cas []))) && ((f.named) || (bI .eql ea.nam []))) && ((f.valued) || ((((aN .eql (ea.v.v.k) (0)) && (aN .eql (ea.v.v.n) (0))) && (bI .eql ea.v.v.t [])) && (aN .eql (ea.v.v.s.length) (0))))) && ((f.args) || (aN .eql (ea.args.length) (0)))) && ((f.source) || (aN .eql (ea.src.length) (0))))),(0,.agg (ea.cells).toArray),(1,.agg ([.bool f.typed,.bool f.cased,.bool f.named,.bool f.valued,.bool f.args,.bool f.source]).toArray),(2,.pointer (some ⟨b1,0,none⟩)),(4,.bool false),(6,.pointer (some ⟨b1,6,none⟩)),(7,.agg ([.int .i64 ea.v.v.k,.int .i64 ea.v.v.n,ak ea.v.v.t,.slice ea.v.sA ea.v.v.s.length ea.v.sC]).toArray),(5,.pointer (some ⟨b7,0,none⟩))] (fun hJ13=>?elA13) (fun a hF=>?flA13)
 case elA13 =>
  rcases tf ((((((f.typed) || (bI .eql ea.typ [])) && ((f.cased) || (bI .eql ea.cas []))) && ((f.named) || (bI .eql ea.nam []))) && ((f.valued) || ((((aN .eql (ea.v.v.k) (0)) && (aN .eql (ea.v.v.n) (0))) && (bI .eql ea.v.v.t [])) && (aN .eql (ea.v.v.s.length) (0))))) && ((f.args) || (aN .eql (ea.args.length) (0)))) with hg13 | hg13
  ·refine aH hF O O O O O (aJ hg13) ae (fun a hF=>?_)
   refine aH hF O O O O O (aJ hg13) ae (fun a hF=>?_)
   refine aH hF O O O O O (aJ hg13) ae (fun a hF=>?_)
   refine bg hF O O O O O ae (fun a hF=>?_)
   refine bg hF O O O O O ae (fun a hF=>?_)
   refine bg hF O O O O O ae (fun a hF=>?_)
   refine bg hF O O O O O ae (fun a hF=>?_)
   refine aH hF O O O O O (aJ hg13) ae (fun a hF=>?_)
   refine vR hF<|vV O (aZ hg13 rfl rfl rfl) fun a hF=>?_
   exact hJ13 _ ((hF.keep [77,0,1,2,4,6,7,5] (F':=[(77,_),(0,_),(1,_),(2,_),(4,_),(6,_),(7,_),(5,_)]) O).bool (by rw [hg13]; rfl))
  ·refine aK hF O O O O (aj hg13) ae _ (yf 5 O Qe O lL O) (fun a hF=>?_)
   refine aK hF O O O O (aj hg13) ae _ (bi O hA11.q O 1 O O lQ) (fun a hF=>?_)
   refine aK hF O O O O (aj hg13) ae _ (aV O O) (fun a hF=>?_)
   refine bK (l2:=?lA14) hF [(76,.bool ((f.source) || (aN .eql (ea.src.length) (0)))),(0,.agg (ea.cells).toArray),(1,.agg ([.bool f.typed,.bool f.cased,.bool f.named,.bool f.valued,.bool f.args,.bool f.source]).toArray),(2,.pointer (some ⟨b1,0,none⟩)),(4,.bool false),(6,.pointer (some ⟨b1,6,none⟩)),(7,.agg ([.int .i64 ea.v.v.k,.int .i64 ea.v.v.n,ak ea.v.v.t,.slice ea.v.sA ea.v.v.s.length ea.v.sC]).toArray),(5,.pointer (some ⟨b7,0,none⟩)),(68,.bool ((((((f.typed) || (bI .eql ea.typ [])) && ((f.cased) || (bI .eql ea.cas []))) && ((f.named) || (bI .eql ea.nam []))) && ((f.valued) || ((((aN .eql (ea.v.v.k) (0)) && (aN .eql (ea.v.v.n) (0))) && (bI .eql ea.v.v.t [])) && (aN .eql (ea.v.v.s.length) (0))))) && ((f.args) || (aN .eql (ea.args.length) (0)))))] (fun hJ14=>?elA14) (fun a hF=>?flA14)
   case elA14 =>
    rcases tf (f.source) with hg14 | hg14
    ·refine aK hF O O O O (aj hg14) ae _ (yf 11 rfl Qd O dO O) (fun a hF=>?_)
     refine aK hF O O O O (aj hg14) ae _ (bi O hA11.q O 2 O O kw) (fun a hF=>?_)
     refine aK hF O O O O (aj hg14) ae _ (aU O PZ O O) (fun a hF=>?_)
     refine aK hF O O O O (aj hg14) ae _ (aB O O O O O) (fun a hF=>?_)
     refine aK hF O O O O (aj hg13) ae _ (aZ hg14 rfl rfl rfl) (fun a hF=>?_)
     exact hJ14 _ ((hF.keep [76,0,1,2,4,6,7,5,68] (F':=[(76,_),(0,_),(1,_),(2,_),(4,_),(6,_),(7,_),(5,_),(68,_)]) O).bool (by rw [hg14]; rfl))
    ·refine aH hF O O O O O (aJ hg14) ae (fun a hF=>?_)
     refine aH hF O O O O O (aJ hg14) ae (fun a hF=>?_)
     refine aH hF O O O O O (aJ hg14) ae (fun a hF=>?_)
     refine aH hF O O O O O (aJ hg14) ae (fun a hF=>?_)
     refine aK hF O O O O (aj hg13) ae _ (bD hg14 rfl rfl rfl) (fun a hF=>?_)
     exact hJ14 _ ((hF.keep [76,0,1,2,4,6,7,5,68] (F':=[(76,_),(0,_),(1,_),(2,_),(4,_),(6,_),(7,_),(5,_),(68,_)]) O).bool (by rw [hg14]; rfl))
   refine vR hF<|vV O (bD hg13 rfl rfl rfl) fun a hF=>?_
   exact hJ13 _ ((hF.keep [77,0,1,2,4,6,7,5] (F':=[(77,_),(0,_),(1,_),(2,_),(4,_),(6,_),(7,_),(5,_)]) O).bool (by rw [hg13]; rfl))
 refine vR hF<|vX O<|vE hK3 fun a hF=>?_
 apply wp_ret
 refine aO hF Tryz.results135 O ?_
 have hA12:Hp w0 (R) w10:=hpS 3 [] [0,1,2] hA11 rfl
 exact ⟨by rw [Gh],hA12⟩
theorem uy (l:List VA):(rf l).length=l.length*4:=by
 unfold rf
 induction l with
 | nil=>rfl
 | cons a l ih=>rw [List.map_cons,List.flatten_cons,List.length_append,ih]; show 4+l.length*4=(l.length+1)*4; omega
theorem Jv (l:List VA):∀ v∈rf l,v.oneCell'=true:=fun v hv=>by
 obtain ⟨W,h1,h2⟩:=List.mem_flatten.1 hv
 obtain ⟨a,_,rfl⟩:=List.mem_map.1 h1
 simp only [List.mem_cons,List.not_mem_nil,or_false] at h2
 rcases h2 with rfl | rfl | rfl | rfl <;> rfl
theorem Iq (a:VA) (w:World):(Instr.buildSlice 26 1 #[(0,.agg a.cells.toArray)]).run Tryz.prog w= .ok (.slice (some ⟨w.heap.size,0,none⟩) 1 1) (w.alloc (.cells a.cells.toArray 25)):=af
theorem zF:iO Tryz.prog 25 4 56:=qM (z:= .agg ([.int .i64 0,.int .i64 0,ak [],.slice none 0 0]:List Value).toArray) af af
theorem Cb {a b:Bool} (h:(a && !b)=true):a=true∧b=false:=by cases a <;> cases b <;> simp_all
theorem G7 {a b c d e f:Bool} (h1:(a && !b)=false) (h2:(c && !d)=false) (h3:(e && !f)=false):¬ ((a=true∧b=false)∨(c=true∧d=false)∨(e=true∧f=false)):=by
 cases a <;> cases b <;> cases c <;> cases d <;> cases e <;> cases f <;> simp_all
theorem Oa {n:Nat} (h:aN .gtr (n:Int) 16=false):n≤16:=by simp [aN] at h; omega
theorem kT {n:Nat} (h:aN .neq (n:Int) 0=true):¬ n=0:=by simp [aN] at h; exact h
theorem qg {n:Nat} (h:aN .neq (n:Int) 0=false):n=0:=by simp [aN] at h; exact h
theorem OH {ea:EA} {f:Fld} (h0:(!((dH ea.ev f)))=true):df ea.ev f=8:=by
 unfold df
 exact if_pos (by simpa using h0)
theorem A7 {ea:EA} {f:Fld} (h0:(!((dH ea.ev f)))=false) (hn:((f.cased=true∧dQ ea.cas 64=false)∨(f.typed=true∧bP ea.typ=false)∨(f.named=true∧bP ea.nam=false))):df ea.ev f=34:=by
 unfold df
 refine Eq.trans (if_neg (by simpa using h0)) ?_
 exact if_pos hn
theorem OL {ea:EA} {f:Fld} (h0:(!((dH ea.ev f)))=false) (hn:¬ ((f.cased=true∧dQ ea.cas 64=false)∨(f.typed=true∧bP ea.typ=false)∨(f.named=true∧bP ea.nam=false))) (h4:((aN .lss ea.num 0) || (aN .geq ea.num 1099511627776))=true):df ea.ev f=5:=by
 unfold df
 refine Eq.trans (if_neg (by simpa using h0)) ?_
 refine Eq.trans (if_neg hn) ?_
 exact if_pos (by simp [aN] at h4; show ea.num<0∨_≤ea.num; omega)
theorem J6 {ea:EA} {f:Fld} (h0:(!((dH ea.ev f)))=false) (hn:¬ ((f.cased=true∧dQ ea.cas 64=false)∨(f.typed=true∧bP ea.typ=false)∨(f.named=true∧bP ea.nam=false))) (h4:((aN .lss ea.num 0) || (aN .geq ea.num 1099511627776))=false) (h5:((aN .lss ea.clk 0) || (aN .gtr ea.clk 4611686018427387904))=true):df ea.ev f=132:=by
 unfold df
 refine Eq.trans (if_neg (by simpa using h0)) ?_
 refine Eq.trans (if_neg hn) ?_
 refine Eq.trans (if_neg (by simp [aN] at h4; show ¬ (ea.num<0∨_≤ea.num); omega)) ?_
 exact if_pos (by simp [aN] at h5; show ea.clk<0∨_<ea.clk; omega)
theorem OI {ea:EA} {f:Fld} (h0:(!((dH ea.ev f)))=false) (hn:¬ ((f.cased=true∧dQ ea.cas 64=false)∨(f.typed=true∧bP ea.typ=false)∨(f.named=true∧bP ea.nam=false))) (h4:((aN .lss ea.num 0) || (aN .geq ea.num 1099511627776))=false) (h5:((aN .lss ea.clk 0) || (aN .gtr ea.clk 4611686018427387904))=false) (h6:(aN .gtr ((ea.args.length:Nat):Int) 16)=true):df ea.ev f=7:=by
 unfold df
 refine Eq.trans (if_neg (by simpa using h0)) ?_
 refine Eq.trans (if_neg hn) ?_
 refine Eq.trans (if_neg (by simp [aN] at h4; show ¬ (ea.num<0∨_≤ea.num); omega)) ?_
 refine Eq.trans (if_neg (by simp [aN] at h5; show ¬ (ea.clk<0∨_<ea.clk); omega)) ?_
 exact if_pos (by simp [aN] at h6; show 16<(ea.args.map VA.v).length; rw [List.length_map]; omega)
theorem OG {ea:EA} {f:Fld} (h0:(!((dH ea.ev f)))=false) (hn:¬ ((f.cased=true∧dQ ea.cas 64=false)∨(f.typed=true∧bP ea.typ=false)∨(f.named=true∧bP ea.nam=false))) (h4:((aN .lss ea.num 0) || (aN .geq ea.num 1099511627776))=false) (h5:((aN .lss ea.clk 0) || (aN .gtr ea.clk 4611686018427387904))=false) (h6:(aN .gtr ((ea.args.length:Nat):Int) 16)=false) {k:Nat} (hf:jU (ea.v.v::ea.args.map VA.v)=k) (hk:¬ k=0):df ea.ev f=k:=by
 unfold df
 refine Eq.trans (if_neg (by simpa using h0)) ?_
 refine Eq.trans (if_neg hn) ?_
 refine Eq.trans (if_neg (by simp [aN] at h4; show ¬ (ea.num<0∨_≤ea.num); omega)) ?_
 refine Eq.trans (if_neg (by simp [aN] at h5; show ¬ (ea.clk<0∨_<ea.clk); omega)) ?_
 refine Eq.trans (if_neg (by simp [aN] at h6; show ¬ 16<(ea.args.map VA.v).length; rw [List.length_map]; omega)) ?_
 refine Eq.trans (if_neg (show ¬ jU (ea.v.v::ea.args.map VA.v)=0 from fun hh=>hk (hf.symm.trans hh))) ?_
 exact hf
theorem OJ {ea:EA} {f:Fld} (h0:(!((dH ea.ev f)))=false) (hn:¬ ((f.cased=true∧dQ ea.cas 64=false)∨(f.typed=true∧bP ea.typ=false)∨(f.named=true∧bP ea.nam=false))) (h4:((aN .lss ea.num 0) || (aN .geq ea.num 1099511627776))=false) (h5:((aN .lss ea.clk 0) || (aN .gtr ea.clk 4611686018427387904))=false) (h6:(aN .gtr ((ea.args.length:Nat):Int) 16)=false) (hf:jU (ea.v.v::ea.args.map VA.v)=0) (h7:(aN .gtr ((ea.src.length:Nat):Int) 60000)=true):df ea.ev f=6:=by
 unfold df
 refine Eq.trans (if_neg (by simpa using h0)) ?_
 refine Eq.trans (if_neg hn) ?_
 refine Eq.trans (if_neg (by simp [aN] at h4; show ¬ (ea.num<0∨_≤ea.num); omega)) ?_
 refine Eq.trans (if_neg (by simp [aN] at h5; show ¬ (ea.clk<0∨_<ea.clk); omega)) ?_
 refine Eq.trans (if_neg (by simp [aN] at h6; show ¬ 16<(ea.args.map VA.v).length; rw [List.length_map]; omega)) ?_
 refine Eq.trans (if_pos hf) ?_
 exact if_pos (by simp [aN] at h7; show 60000<ea.src.length; omega)
theorem NC {ea:EA} {f:Fld} (h0:(!((dH ea.ev f)))=false) (hn:¬ ((f.cased=true∧dQ ea.cas 64=false)∨(f.typed=true∧bP ea.typ=false)∨(f.named=true∧bP ea.nam=false))) (h4:((aN .lss ea.num 0) || (aN .geq ea.num 1099511627776))=false) (h5:((aN .lss ea.clk 0) || (aN .gtr ea.clk 4611686018427387904))=false) (h6:(aN .gtr ((ea.args.length:Nat):Int) 16)=false) (hf:jU (ea.v.v::ea.args.map VA.v)=0) (h7:(aN .gtr ((ea.src.length:Nat):Int) 60000)=false):df ea.ev f=0:=by
 unfold df
 refine Eq.trans (if_neg (by simpa using h0)) ?_
 refine Eq.trans (if_neg hn) ?_
 refine Eq.trans (if_neg (by simp [aN] at h4; show ¬ (ea.num<0∨_≤ea.num); omega)) ?_
 refine Eq.trans (if_neg (by simp [aN] at h5; show ¬ (ea.clk<0∨_<ea.clk); omega)) ?_
 refine Eq.trans (if_neg (by simp [aN] at h6; show ¬ 16<(ea.args.map VA.v).length; rw [List.length_map]; omega)) ?_
 refine Eq.trans (if_pos hf) ?_
 exact if_neg (by simp [aN] at h7; show ¬ 60000<ea.src.length; omega)
set_option maxRecDepth 100000 in
set_option maxHeartbeats 2000000 in
theorem BJ {w0:World} {R:List Seg} {G:List Seg} (ea:EA) (f:Fld) (w:World) (hT:rq w0) (hV:ea.Ok w0 G) (hG:G⊆R) (hA:Hp w0 R w):Calls Tryz.prog 73 #[.agg ea.cells.toArray,.agg f.cells.toArray] w fun e w'=>e= .returned (.int .i64 (df ea.ev f:Nat))∧Hp w0 R w':=by
 have he32:ea.eff.length=32:=hV.i.2.2.2.2.2
 have hn:=hV.n
 have hsn:=hV.sn
 have hvn:=hV.v.n
 refine aQ Tryz.func73 O Tryz.ntmps73 ai (fun a hF=>?_)
 refine wp_seq_k fun K1 hK1=>wp_region_lit ?_
 refine az O (fun K hK=>fU (cs:=ea.cells) hF O ae rfl hA O (fun b1 w2 a hb1 hF hA3=>hK _ _ ?_))
 refine az O (fun K hK=>fU (cs:=[.bool f.typed,.bool f.cased,.bool f.named,.bool f.valued,.bool f.args,.bool f.source]) hF O ae rfl hA3 O (fun b4 w5 a hb4 hF hA6=>hK _ _ ?_))
 refine vR hF<|vX O<|vE hK1<|wQ fun K2 hK2=>wBk<|wT fun K3 hK3=>vV O (dU (new:=[.int .i64 ea.op,.int .i64 ea.num,.int .i64 ea.clk,ak ea.typ,ak ea.cas,ak ea.nam,.int .i64 ea.v.v.k,.int .i64 ea.v.v.n,ak ea.v.v.t,.slice ea.v.sA ea.v.v.s.length ea.v.sC,.slice ea.aA ea.args.length ea.aC,.slice ea.bA ea.src.length ea.bC]++dc ea.eff) rfl hA6.q O 1 O JS (by rw [List.length_append,aI,he32]; exact Nat.le_of_ble_eq_true rfl) (by rw [List.drop_zero]; exact P8 (by rw [List.length_append,aI,he32]; exact Nat.le_of_ble_eq_true rfl))) fun a hF=>?_
 refine vR hF<|vV O (dU (new:=[.bool f.typed,.bool f.cased,.bool f.named,.bool f.valued,.bool f.args,.bool f.source]) O hA6.q O 0 O kG ai rfl) fun a hF=>?_
 refine az O (fun K hK=>ay hF O ae Jh rfl rfl ?_)
 with_reducible refine (Ii ea f _ hV (List.Subset.trans hG (bW (bW (fD)))) hA6).mono ?_
 rintro e' w7 ⟨rfl,hA8⟩
 refine ⟨_,rfl,fun a hF=>hK _ _ ?_⟩
 replace hA8:Hp w0 ([row b4 129 [.bool f.typed,.bool f.cased,.bool f.named,.bool f.valued,.bool f.args,.bool f.source]]::[row b1 31 ([.int .i64 ea.op,.int .i64 ea.num,.int .i64 ea.clk,ak ea.typ,ak ea.cas,ak ea.nam,.int .i64 ea.v.v.k,.int .i64 ea.v.v.n,ak ea.v.v.t,.slice ea.v.sA ea.v.v.s.length ea.v.sC,.slice ea.aA ea.args.length ea.aC,.slice ea.bA ea.src.length ea.bC]++dc ea.eff)]::R) w7:=hA8
 refine vR hF<|vV O (dK O O O)<|vX O<|vE hK3 fun a hF=>?_
 rcases tf (!(dH ea.ev f)) with h0 | h0
 ·refine au hF O h0 ?_
  apply wp_seq_k; intro K4 hK4
  refine wS hF fun K5 hK5=>vV O (yf 1 O Qe O lL O)<|vV O (bi O hA8.q O 0 O O lQ)<|vX O fun a hF=>?_
  refine bK (l2:=?lA1) hF [(21,.bool ((f.cased) && (!(dQ ea.cas 64)))),(0,.agg (ea.cells).toArray),(1,.agg ([.bool f.typed,.bool f.cased,.bool f.named,.bool f.valued,.bool f.args,.bool f.source]).toArray),(2,.pointer (some ⟨b1,0,none⟩)),(3,.pointer (some ⟨b4,0,none⟩)),(4,.int .i64 0),(9,.agg ([.int .i64 ea.op,.int .i64 ea.num,.int .i64 ea.clk,ak ea.typ,ak ea.cas,ak ea.nam,.int .i64 ea.v.v.k,.int .i64 ea.v.v.n,ak ea.v.v.t,.slice ea.v.sA ea.v.v.s.length ea.v.sC,.slice ea.aA ea.args.length ea.aC,.slice ea.bA ea.src.length ea.bC]++dc ea.eff).toArray),(10,.agg ([.bool f.typed,.bool f.cased,.bool f.named,.bool f.valued,.bool f.args,.bool f.source]).toArray),(11,.bool (dH ea.ev f)),(12,.bool (!(dH ea.ev f))),(8,.bool (!(dH ea.ev f)))] (fun hJ1=>?elA1) (fun a hF=>?flA1)
  case elA1 =>
   rcases tf (f.cased) with hg1 | hg1
   ·refine aH hF O O O O O (aJ hg1) ae (fun a hF=>?_)
    refine aH hF O O O O O (aJ hg1) ae (fun a hF=>?_)
    refine aH hF O O O O O (aJ hg1) ae (fun a hF=>?_)
    refine aH hF O O O O O (aJ hg1) ae (fun a hF=>?_)
    refine vR hF<|vV O (aZ hg1 rfl rfl rfl) fun a hF=>?_
    exact hJ1 _ ((hF.keep [21,0,1,2,3,4,9,10,11,12,8] (F':=[(21,_),(0,_),(1,_),(2,_),(3,_),(4,_),(9,_),(10,_),(11,_),(12,_),(8,_)]) O).bool (by rw [hg1]; rfl))
   ·refine aK hF O O O O (aj hg1) ae _ (yf 4 O Qd O wK O) (fun a hF=>?_)
    refine aK hF O O O O (aj hg1) ae _ (bi O hA8.q O 1 O O wZ) (fun a hF=>?_)
    refine dY hF O O O (aj hg1) (fun K hK=>ay hF O ae Jg rfl rfl ?_)
    with_reducible refine (KX ea.cas 64 ae _ hA8).mono ?_
    rintro e' w11 ⟨rfl,rfl⟩
    refine ⟨_,rfl,fun a hF=>hK _ _ ?_⟩
    refine aK hF O O O O (aj hg1) ae _ (dK O O O) (fun a hF=>?_)
    refine vR hF<|vV O (bD hg1 rfl rfl rfl) fun a hF=>?_
    exact hJ1 _ ((hF.keep [21,0,1,2,3,4,9,10,11,12,8] (F':=[(21,_),(0,_),(1,_),(2,_),(3,_),(4,_),(9,_),(10,_),(11,_),(12,_),(8,_)]) O).bool (by rw [hg1]; rfl))
  refine vR hF<|vX O<|vE hK5 fun a hF=>?_
  rcases tf ((f.cased) && (!(dQ ea.cas 64))) with h1 | h1
  ·refine au hF O h1 ?_
   refine wS hF fun K6 hK6=>vV O (yf 0 O Qe O lL O)<|vV O (bi O hA8.q O 0 O O lQ)<|vX O fun a hF=>?_
   refine bK (l2:=?lA2) hF [(29,.bool ((f.typed) && (!(bP ea.typ)))),(0,.agg (ea.cells).toArray),(1,.agg ([.bool f.typed,.bool f.cased,.bool f.named,.bool f.valued,.bool f.args,.bool f.source]).toArray),(2,.pointer (some ⟨b1,0,none⟩)),(3,.pointer (some ⟨b4,0,none⟩)),(4,.int .i64 0),(9,.agg ([.int .i64 ea.op,.int .i64 ea.num,.int .i64 ea.clk,ak ea.typ,ak ea.cas,ak ea.nam,.int .i64 ea.v.v.k,.int .i64 ea.v.v.n,ak ea.v.v.t,.slice ea.v.sA ea.v.v.s.length ea.v.sC,.slice ea.aA ea.args.length ea.aC,.slice ea.bA ea.src.length ea.bC]++dc ea.eff).toArray),(10,.agg ([.bool f.typed,.bool f.cased,.bool f.named,.bool f.valued,.bool f.args,.bool f.source]).toArray),(11,.bool (dH ea.ev f)),(12,.bool (!(dH ea.ev f))),(8,.bool (!(dH ea.ev f))),(21,.bool ((f.cased) && (!(dQ ea.cas 64)))),(13,.bool ((f.cased) && (!(dQ ea.cas 64))))] (fun hJ2=>?elA2) (fun a hF=>?flA2)
   case elA2 =>
    rcases tf (f.typed) with hg2 | hg2
    ·refine aH hF O O O O O (aJ hg2) ae (fun a hF=>?_)
     refine aH hF O O O O O (aJ hg2) ae (fun a hF=>?_)
     refine aH hF O O O O O (aJ hg2) ae (fun a hF=>?_)
     refine aH hF O O O O O (aJ hg2) ae (fun a hF=>?_)
     refine vR hF<|vV O (aZ hg2 rfl rfl rfl) fun a hF=>?_
     exact hJ2 _ ((hF.keep [29,0,1,2,3,4,9,10,11,12,8,21,13] (F':=[(29,_),(0,_),(1,_),(2,_),(3,_),(4,_),(9,_),(10,_),(11,_),(12,_),(8,_),(21,_),(13,_)]) O).bool (by rw [hg2]; rfl))
    ·refine aK hF O O O O (aj hg2) ae _ (yf 3 O Qd O wK O) (fun a hF=>?_)
     refine aK hF O O O O (aj hg2) ae _ (bi O hA8.q O 1 O O wZ) (fun a hF=>?_)
     refine dY hF O O O (aj hg2) (fun K hK=>ay hF O ae Dx rfl rfl ?_)
     with_reducible refine (oZ ea.typ _ hT hA8).mono ?_
     rintro e' w14 ⟨rfl,rfl⟩
     refine ⟨_,rfl,fun a hF=>hK _ _ ?_⟩
     refine aK hF O O O O (aj hg2) ae _ (dK O O O) (fun a hF=>?_)
     refine vR hF<|vV O (bD hg2 rfl rfl rfl) fun a hF=>?_
     exact hJ2 _ ((hF.keep [29,0,1,2,3,4,9,10,11,12,8,21,13] (F':=[(29,_),(0,_),(1,_),(2,_),(3,_),(4,_),(9,_),(10,_),(11,_),(12,_),(8,_),(21,_),(13,_)]) O).bool (by rw [hg2]; rfl))
   refine vR hF<|vX O<|vE hK6 fun a hF=>?_
   rcases tf ((f.typed) && (!(bP ea.typ))) with h2 | h2
   ·refine au hF O h2 ?_
    refine wp_region_lit ?_
    refine vR hF<|vV O (yf 2 O Qe O lL O)<|vV O (bi O hA8.q O 0 O O lQ)<|vX O fun a hF=>?_
    refine bK (l2:=?lA3) hF [(37,.bool ((f.named) && (!(bP ea.nam)))),(0,.agg (ea.cells).toArray),(1,.agg ([.bool f.typed,.bool f.cased,.bool f.named,.bool f.valued,.bool f.args,.bool f.source]).toArray),(2,.pointer (some ⟨b1,0,none⟩)),(3,.pointer (some ⟨b4,0,none⟩)),(4,.int .i64 0),(9,.agg ([.int .i64 ea.op,.int .i64 ea.num,.int .i64 ea.clk,ak ea.typ,ak ea.cas,ak ea.nam,.int .i64 ea.v.v.k,.int .i64 ea.v.v.n,ak ea.v.v.t,.slice ea.v.sA ea.v.v.s.length ea.v.sC,.slice ea.aA ea.args.length ea.aC,.slice ea.bA ea.src.length ea.bC]++dc ea.eff).toArray),(10,.agg ([.bool f.typed,.bool f.cased,.bool f.named,.bool f.valued,.bool f.args,.bool f.source]).toArray),(11,.bool (dH ea.ev f)),(12,.bool (!(dH ea.ev f))),(8,.bool (!(dH ea.ev f))),(21,.bool ((f.cased) && (!(dQ ea.cas 64)))),(13,.bool ((f.typed) && (!(bP ea.typ)))),(29,.bool ((f.typed) && (!(bP ea.typ))))] (fun hJ3=>?elA3) (fun a hF=>?flA3)
    case elA3 =>
     rcases tf (f.named) with hg3 | hg3
     ·refine aH hF O O O O O (aJ hg3) ae (fun a hF=>?_)
      refine aH hF O O O O O (aJ hg3) ae (fun a hF=>?_)
      refine aH hF O O O O O (aJ hg3) ae (fun a hF=>?_)
      refine aH hF O O O O O (aJ hg3) ae (fun a hF=>?_)
      refine vR hF<|vV O (aZ hg3 rfl rfl rfl) fun a hF=>?_
      exact hJ3 _ ((hF.keep [37,0,1,2,3,4,9,10,11,12,8,21,13,29] (F':=[(37,_),(0,_),(1,_),(2,_),(3,_),(4,_),(9,_),(10,_),(11,_),(12,_),(8,_),(21,_),(13,_),(29,_)]) O).bool (by rw [hg3]; rfl))
     ·refine aK hF O O O O (aj hg3) ae _ (yf 5 O Qd O wK O) (fun a hF=>?_)
      refine aK hF O O O O (aj hg3) ae _ (bi O hA8.q O 1 O O wZ) (fun a hF=>?_)
      refine dY hF O O O (aj hg3) (fun K hK=>ay hF O ae Dx rfl rfl ?_)
      with_reducible refine (oZ ea.nam _ hT hA8).mono ?_
      rintro e' w17 ⟨rfl,rfl⟩
      refine ⟨_,rfl,fun a hF=>hK _ _ ?_⟩
      refine aK hF O O O O (aj hg3) ae _ (dK O O O) (fun a hF=>?_)
      refine vR hF<|vV O (bD hg3 rfl rfl rfl) fun a hF=>?_
      exact hJ3 _ ((hF.keep [37,0,1,2,3,4,9,10,11,12,8,21,13,29] (F':=[(37,_),(0,_),(1,_),(2,_),(3,_),(4,_),(9,_),(10,_),(11,_),(12,_),(8,_),(21,_),(13,_),(29,_)]) O).bool (by rw [hg3]; rfl))
    refine vR hF<|vX O<|vE hK4 fun a hF=>?_
    rcases tf ((f.named) && (!(bP ea.nam))) with h3 | h3
    ·refine au hF O h3 ?_
     refine wS hF fun K7 hK7=>vV O (yf 1 O Qd O jl O)<|vV O (bi O hA8.q O 1 O O mV)<|vV O (aB O O O O O)<|vX O fun a hF=>?_
     refine bK (l2:=?lA4) hF [(46,.bool ((aN .lss (ea.num) (0)) || (aN .geq (ea.num) (1099511627776)))),(0,.agg (ea.cells).toArray),(1,.agg ([.bool f.typed,.bool f.cased,.bool f.named,.bool f.valued,.bool f.args,.bool f.source]).toArray),(2,.pointer (some ⟨b1,0,none⟩)),(3,.pointer (some ⟨b4,0,none⟩)),(4,.int .i64 0),(9,.agg ([.int .i64 ea.op,.int .i64 ea.num,.int .i64 ea.clk,ak ea.typ,ak ea.cas,ak ea.nam,.int .i64 ea.v.v.k,.int .i64 ea.v.v.n,ak ea.v.v.t,.slice ea.v.sA ea.v.v.s.length ea.v.sC,.slice ea.aA ea.args.length ea.aC,.slice ea.bA ea.src.length ea.bC]++dc ea.eff).toArray),(10,.agg ([.bool f.typed,.bool f.cased,.bool f.named,.bool f.valued,.bool f.args,.bool f.source]).toArray),(11,.bool (dH ea.ev f)),(12,.bool (!(dH ea.ev f))),(8,.bool (!(dH ea.ev f))),(21,.bool ((f.cased) && (!(dQ ea.cas 64)))),(13,.bool ((f.named) && (!(bP ea.nam)))),(29,.bool ((f.typed) && (!(bP ea.typ)))),(37,.bool ((f.named) && (!(bP ea.nam))))] (fun hJ4=>?elA4) (fun a hF=>?flA4)
     case elA4 =>
      rcases tf (aN .lss (ea.num) (0)) with hg4 | hg4
      ·refine aK hF O O O O (aj hg4) ae _ (yf 1 O Qd O jl O) (fun a hF=>?_)
       refine aK hF O O O O (aj hg4) ae _ (bi O hA8.q O 1 O O mV) (fun a hF=>?_)
       refine aK hF O O O O (aj hg4) ae _ (aB O O O O O) (fun a hF=>?_)
       refine vR hF<|vV O (aZ hg4 rfl rfl rfl) fun a hF=>?_
       exact hJ4 _ ((hF.keep [46,0,1,2,3,4,9,10,11,12,8,21,13,29,37] (F':=[(46,_),(0,_),(1,_),(2,_),(3,_),(4,_),(9,_),(10,_),(11,_),(12,_),(8,_),(21,_),(13,_),(29,_),(37,_)]) O).bool (by rw [hg4]; rfl))
      ·refine aH hF O O O O O (aJ hg4) ae (fun a hF=>?_)
       refine aH hF O O O O O (aJ hg4) ae (fun a hF=>?_)
       refine aH hF O O O O O (aJ hg4) ae (fun a hF=>?_)
       refine vR hF<|vV O (bD hg4 rfl rfl rfl) fun a hF=>?_
       exact hJ4 _ ((hF.keep [46,0,1,2,3,4,9,10,11,12,8,21,13,29,37] (F':=[(46,_),(0,_),(1,_),(2,_),(3,_),(4,_),(9,_),(10,_),(11,_),(12,_),(8,_),(21,_),(13,_),(29,_),(37,_)]) O).bool (by rw [hg4]; rfl))
     refine vR hF<|vX O<|vE hK7 fun a hF=>?_
     have hnm:=G7 h1 h2 h3
     rcases tf ((aN .lss (ea.num) (0)) || (aN .geq (ea.num) (1099511627776))) with h4 | h4
     ·refine au hF O h4 ?_
      refine wS hF fun K8 hK8=>vV O (yf 2 O Qd O jl O)<|vV O (bi O hA8.q O 1 O O mV)<|vV O (aB O O O O O)<|vX O fun a hF=>?_
      refine bK (l2:=?lA5) hF [(55,.bool ((aN .lss (ea.clk) (0)) || (aN .gtr (ea.clk) (4611686018427387904)))),(0,.agg (ea.cells).toArray),(1,.agg ([.bool f.typed,.bool f.cased,.bool f.named,.bool f.valued,.bool f.args,.bool f.source]).toArray),(2,.pointer (some ⟨b1,0,none⟩)),(3,.pointer (some ⟨b4,0,none⟩)),(4,.int .i64 0),(9,.agg ([.int .i64 ea.op,.int .i64 ea.num,.int .i64 ea.clk,ak ea.typ,ak ea.cas,ak ea.nam,.int .i64 ea.v.v.k,.int .i64 ea.v.v.n,ak ea.v.v.t,.slice ea.v.sA ea.v.v.s.length ea.v.sC,.slice ea.aA ea.args.length ea.aC,.slice ea.bA ea.src.length ea.bC]++dc ea.eff).toArray),(10,.agg ([.bool f.typed,.bool f.cased,.bool f.named,.bool f.valued,.bool f.args,.bool f.source]).toArray),(11,.bool (dH ea.ev f)),(12,.bool (!(dH ea.ev f))),(8,.bool (!(dH ea.ev f))),(21,.bool ((f.cased) && (!(dQ ea.cas 64)))),(13,.bool ((f.named) && (!(bP ea.nam)))),(29,.bool ((f.typed) && (!(bP ea.typ)))),(37,.bool ((f.named) && (!(bP ea.nam)))),(46,.bool ((aN .lss (ea.num) (0)) || (aN .geq (ea.num) (1099511627776)))),(38,.bool ((aN .lss (ea.num) (0)) || (aN .geq (ea.num) (1099511627776))))] (fun hJ5=>?elA5) (fun a hF=>?flA5)
      case elA5 =>
       rcases tf (aN .lss (ea.clk) (0)) with hg5 | hg5
       ·refine aK hF O O O O (aj hg5) ae _ (yf 2 O Qd O jl O) (fun a hF=>?_)
        refine aK hF O O O O (aj hg5) ae _ (bi O hA8.q O 1 O O mV) (fun a hF=>?_)
        refine aK hF O O O O (aj hg5) ae _ (aB O O O O O) (fun a hF=>?_)
        refine vR hF<|vV O (aZ hg5 rfl rfl rfl) fun a hF=>?_
        exact hJ5 _ ((hF.keep [55,0,1,2,3,4,9,10,11,12,8,21,13,29,37,46,38] (F':=[(55,_),(0,_),(1,_),(2,_),(3,_),(4,_),(9,_),(10,_),(11,_),(12,_),(8,_),(21,_),(13,_),(29,_),(37,_),(46,_),(38,_)]) O).bool (by rw [hg5]; rfl))
       ·refine aH hF O O O O O (aJ hg5) ae (fun a hF=>?_)
        refine aH hF O O O O O (aJ hg5) ae (fun a hF=>?_)
        refine aH hF O O O O O (aJ hg5) ae (fun a hF=>?_)
        refine vR hF<|vV O (bD hg5 rfl rfl rfl) fun a hF=>?_
        exact hJ5 _ ((hF.keep [55,0,1,2,3,4,9,10,11,12,8,21,13,29,37,46,38] (F':=[(55,_),(0,_),(1,_),(2,_),(3,_),(4,_),(9,_),(10,_),(11,_),(12,_),(8,_),(21,_),(13,_),(29,_),(37,_),(46,_),(38,_)]) O).bool (by rw [hg5]; rfl))
      refine vR hF<|vX O<|vE hK8 fun a hF=>?_
      rcases tf ((aN .lss (ea.clk) (0)) || (aN .gtr (ea.clk) (4611686018427387904))) with h5 | h5
      ·refine au hF O h5 ?_
       refine wS hF fun K9 hK9=>vV O (yf 10 rfl Qd O wO O)<|vV O (bi O hA8.q O 1 O O xh)<|vV O (aU O Qg O O)<|vV O (aB O O O O O)<|vX O<|vE hK9 fun a hF=>?_
       rcases tf (aN .gtr (ea.args.length) (16)) with h6 | h6
       ·refine au hF O h6 ?_
        have hle:=Oa h6
        apply wp_skip
        refine hK2 _ _ ?_
        apply wp_seq_k; intro K10 hK10
        refine wS hF fun K11 hK11=>vV O (yf 6 O Qd O oJ O)<|vV O (dU (new:=[.int .i64 ea.v.v.k,.int .i64 ea.v.v.n,ak ea.v.v.t,.slice ea.v.sA ea.v.v.s.length ea.v.sC]) O hA8.q O 1 O JV (by rw [List.length_append]; exact Nat.le_add_right_of_le ai) rfl) fun a hF=>?_
        refine az O (fun K hK=>qI (qs := #[(0,.agg ea.v.cells.toArray)]) (cells:=ea.v.cells.toArray) hF O ae rfl hA8 O (Iq ea.v) (fun b18 w19 a hb18 hF hA20=>hK _ _ ?_))
        have hZ0:Buf 25 4 [row b18 25 ea.v.cells] (.slice (some ⟨b18,0,none⟩) 1 1) 1 ea.v.cells:=Buf.full rfl ae
        refine vR hF<|vV O (yf 10 rfl Qd O wO O)<|vV O (bi O hA20.q O 2 O O xh) fun a hF=>?_
        refine az O (fun K hK=>dn hF O ae rfl hA20 0 O hZ0 Qg zF rfl rfl (Rc.srcC (W:=rf ea.args) (m:=ea.args.length) (size:=4) (R:=[row b18 25 ea.v.cells]::[row b4 129 [.bool f.typed,.bool f.cased,.bool f.named,.bool f.valued,.bool f.args,.bool f.source]]::[row b1 31 ([.int .i64 ea.op,.int .i64 ea.num,.int .i64 ea.clk,ak ea.typ,ak ea.cas,ak ea.nam,.int .i64 ea.v.v.k,.int .i64 ea.v.v.n,ak ea.v.v.t,.slice ea.v.sA ea.v.v.s.length ea.v.sC,.slice ea.aA ea.args.length ea.aC,.slice ea.bA ea.src.length ea.bC]++dc ea.eff)]::R) (hV.rc.mono (List.Subset.trans hG (bW (bW (bW (fD)))))) hA20.q Qg ae (uy _) (Jv _)) ag ae (fun vB ZB w21 a hZ hF hA22=>hK _ _ ?_))
        replace hA22:Hp w0 (ZB::[row b4 129 [.bool f.typed,.bool f.cased,.bool f.named,.bool f.valued,.bool f.args,.bool f.source]]::[row b1 31 ([.int .i64 ea.op,.int .i64 ea.num,.int .i64 ea.clk,ak ea.typ,ak ea.cas,ak ea.nam,.int .i64 ea.v.v.k,.int .i64 ea.v.v.n,ak ea.v.v.t,.slice ea.v.sA ea.v.v.s.length ea.v.sC,.slice ea.aA ea.args.length ea.aC,.slice ea.bA ea.src.length ea.bC]++dc ea.eff)]::R) w21:=hA22
        replace hZ:Buf 25 4 ZB vB (ea.v::ea.args).length (rf (ea.v::ea.args)):=by rw [List.length_cons,Nat.add_comm]; exact hZ
        obtain ⟨A1,c1,rfl,hc1,hRc⟩:=hZ.rc (w0:=w0) (R:=[ZB]) (P6 ..)
        obtain ⟨L,hL⟩:∃ L,L=ea.v::ea.args:=⟨_,rfl⟩
        rw [← hL] at hF hRc
        have hLk:∀ a∈L,a.Ok w0 G:=fun a ha=>by
         rw [hL] at ha
         rcases List.mem_cons.1 ha with rfl | ha
         ·exact hV.v
         ·exact hV.args _ ha
        have hLn:L.length≤17:=by rw [hL,List.length_cons]; omega
        refine vR hF<|vV O (aU O Qg O O)<|vX O<|vE hK11<|wBk fun a hF=>?_
        refine bH (G:=Nat) (fun i a x=>i≤L.length∧jU (L.map VA.v)=jU ((L.drop i).map VA.v)∧Fr 82 [(68,.int .i64 (i:Int)),(2,.pointer (some ⟨b1,0,none⟩)),(3,.pointer (some ⟨b4,0,none⟩)),(66,.slice A1 L.length c1),(67,.int .i64 L.length)] a∧Hp w0 (ZB::[row b4 129 [.bool f.typed,.bool f.cased,.bool f.named,.bool f.valued,.bool f.args,.bool f.source]]::[row b1 31 ([.int .i64 ea.op,.int .i64 ea.num,.int .i64 ea.clk,ak ea.typ,ak ea.cas,ak ea.nam,.int .i64 ea.v.v.k,.int .i64 ea.v.v.n,ak ea.v.v.t,.slice ea.v.sA ea.v.v.s.length ea.v.sC,.slice ea.aA ea.args.length ea.aC,.slice ea.bA ea.src.length ea.bC]++dc ea.eff)]::R) x) (fun i=>L.length-i) 0 (⟨PU _,rfl,hF.keep [68,2,3,66,67] rfl,hA22⟩) ?_
        clear hF
        rintro i a w24 ⟨hi,hfr,hF,hA23⟩
        refine wS hF fun K12 hK12=>vV O (aB O O O O O)<|vE hK12<|wQ fun K13 hK13 a hF=>?_
        by_cases hlt:i<L.length
        ·refine aF hF O (dB ag) ?_
         obtain ⟨va,hp⟩:∃ q,L[i]? = some q:=⟨_,List.getElem?_eq_getElem hlt⟩
         obtain ⟨hat,hle4⟩:=Go.Dk.flat_at (z:=4) (Ws:=L.map VA.cells) (V:=va.cells) (i:=i) (fun V hV=>by obtain ⟨u,_,rfl⟩:=List.mem_map.1 hV; rfl) (by rw [List.getElem?_map,hp]; rfl)
         obtain ⟨b,o,hsA,hc⟩:=hRc.ne (i:=i*4) (by have:=uy L; omega)
         rw [hsA] at hF
         rw [List.drop_eq_getElem_cons hlt,List.map_cons,(List.getElem?_eq_some_iff.1 hp).2,jU] at hfr
         have hva:=hLk va (List.mem_of_getElem? hp)
         have hvan:=hva.n
         apply wp_skip
         refine hK13 _ _ ?_
         apply wp_seq_k; intro K14 hK14
         apply wp_block
         refine wS hF fun K15 hK15=>vV O (bF O Qg oJ O O i rfl hlt rfl)<|vV O (gY (new:=va.cells) rfl (Hq.sub hA23.q (List.cons_subset.2 ⟨((P6 ..)),List.nil_subset _⟩)) O hc (i*4) hle4 rfl hat JV) fun a hF=>?_
         refine az O (fun K hK=>dG hF O ae rfl hA23 (Cf) (fun b25 w26 a hb25 hF hA27=>hK _ _ ?_))
         refine az O (fun K hK=>bz (new:=[.int .i64 va.v.k,.int .i64 va.v.n,ak va.v.t,.slice va.sA va.v.s.length va.sC]) hF O O hA27 O O 0 O O (by simp [Value.oneCell']) oJ (fun w28 hA29=>hK _ _ ?_))
         replace hA29:Hp w0 ([row b25 25 [.int .i64 va.v.k,.int .i64 va.v.n,ak va.v.t,.slice va.sA va.v.s.length va.sC]]::ZB::[row b4 129 [.bool f.typed,.bool f.cased,.bool f.named,.bool f.valued,.bool f.args,.bool f.source]]::[row b1 31 ([.int .i64 ea.op,.int .i64 ea.num,.int .i64 ea.clk,ak ea.typ,ak ea.cas,ak ea.nam,.int .i64 ea.v.v.k,.int .i64 ea.v.v.n,ak ea.v.v.t,.slice ea.v.sA ea.v.v.s.length ea.v.sC,.slice ea.aA ea.args.length ea.aC,.slice ea.bA ea.src.length ea.bC]++dc ea.eff)]::R) w28:=hA29
         refine aG<|hK15 _ _ ?_
         refine wS hF fun K16 hK16=>vV O (dU (new:=[.int .i64 va.v.k,.int .i64 va.v.n,ak va.v.t,.slice va.sA va.v.s.length va.sC]) O hA29.q O 0 O JV ai rfl) fun a hF=>?_
         refine az O (fun K hK=>ay hF O ae Jk rfl rfl ?_)
         with_reducible refine (ug va _ hva (List.Subset.trans hG (bW (bW (bW (bW (fD)))))) hA29).mono ?_
         rintro e' w30 ⟨rfl,hA31⟩
         refine ⟨_,rfl,fun a hF=>hK _ _ ?_⟩
         replace hA31:Hp w0 ([row b25 25 [.int .i64 va.v.k,.int .i64 va.v.n,ak va.v.t,.slice va.sA va.v.s.length va.sC]]::ZB::[row b4 129 [.bool f.typed,.bool f.cased,.bool f.named,.bool f.valued,.bool f.args,.bool f.source]]::[row b1 31 ([.int .i64 ea.op,.int .i64 ea.num,.int .i64 ea.clk,ak ea.typ,ak ea.cas,ak ea.nam,.int .i64 ea.v.v.k,.int .i64 ea.v.v.n,ak ea.v.v.t,.slice ea.v.sA ea.v.v.s.length ea.v.sC,.slice ea.aA ea.args.length ea.aC,.slice ea.bA ea.src.length ea.bC]++dc ea.eff)]::R) w30:=hA31
         refine vR hF<|vX O<|vE hK16<|wT fun K17 hK17=>vX O<|vV O (aB O O O O O)<|vE hK17 fun a hF=>?_
         rcases tf (aN .neq (((va.v.right:Nat):Int)) (0)) with hr | hr
         ·refine au hF O hr ?_
          rw [if_pos (qg hr)] at hfr
          rw [← hsA] at hF
          apply wp_skip
          refine hK14 _ _ ?_
          refine wp_region_lit ?_
          refine vR hF<|vV O (bn O O O (PX _ ag))<|vX O fun a hF=>?_
          refine aG ?_
          have hA32:Hp w0 (ZB::[row b4 129 [.bool f.typed,.bool f.cased,.bool f.named,.bool f.valued,.bool f.args,.bool f.source]]::[row b1 31 ([.int .i64 ea.op,.int .i64 ea.num,.int .i64 ea.clk,ak ea.typ,ak ea.cas,ak ea.nam,.int .i64 ea.v.v.k,.int .i64 ea.v.v.n,ak ea.v.v.t,.slice ea.v.sA ea.v.v.s.length ea.v.sC,.slice ea.aA ea.args.length ea.aC,.slice ea.bA ea.src.length ea.bC]++dc ea.eff)]::R) w30:=hpS 4 [1,2,3] [0] hA31 rfl
          exact ⟨i+1,ag,ag,hfr,hF.keep [68,2,3,66,67] rfl,hA32⟩
         ·refine aF hF O hr ?_
          refine wS hF fun K18 hK18=>vX O<|vX O<|vE hK18 fun a hF=>?_
          apply wp_ret
          simp only [Exit.then,Exit.inBlock]
          refine aO hF Tryz.results73 O ?_
          have hA33:Hp w0 (R) w30:=hpS 4 [] [0,1,2,3] hA31 rfl
          exact ⟨by rw [OG h0 hnm h4 h5 h6 (by rw [← List.map_cons,← hL,hfr,if_neg (kT hr)]) (kT hr)],hA33⟩
        ·refine au hF O (dA ag) ?_
         obtain rfl:i=L.length:=by omega
         rw [List.drop_length] at hfr
         apply wp_exit
         refine hK10 _ _ ?_
         apply wp_seq_k; intro K19 hK19
         refine wS hF fun K20 hK20=>vV O (yf 11 rfl Qd O dO O)<|vV O (bi O hA23.q O 2 O O kw)<|vV O (aU O PZ O O)<|vV O (aB O O O O O)<|vE hK20 fun a hF=>?_
         rcases tf (aN .gtr (ea.src.length) (60000)) with h7 | h7
         ·refine au hF O h7 ?_
          apply wp_skip
          refine hK19 _ _ ?_
          refine wS hF fun K21 hK21=>vX O<|vE hK21 fun a hF=>?_
          apply wp_ret
          refine aO hF Tryz.results73 O ?_
          have hA34:Hp w0 (R) w24:=hpS 3 [] [0,1,2] hA23 rfl
          exact ⟨by rw [NC h0 hnm h4 h5 h6 (by rw [← List.map_cons,← hL,hfr]; rfl) h7]; rfl,hA34⟩
         ·refine aF hF O h7 ?_
          refine wS hF fun K22 hK22=>vX O<|vE hK22 fun a hF=>?_
          apply wp_ret
          simp only [Exit.then]
          refine aO hF Tryz.results73 O ?_
          have hA35:Hp w0 (R) w24:=hpS 3 [] [0,1,2] hA23 rfl
          exact ⟨by rw [OJ h0 hnm h4 h5 h6 (by rw [← List.map_cons,← hL,hfr]; rfl) h7]; rfl,hA35⟩
       ·refine aF hF O h6 ?_
        refine wS hF fun K23 hK23=>vX O<|vE hK23 fun a hF=>?_
        apply wp_ret
        simp only [Exit.then,Exit.inBlock]
        refine aO hF Tryz.results73 O ?_
        have hA36:Hp w0 (R) w7:=hpS 2 [] [0,1] hA8 rfl
        exact ⟨by rw [OI h0 hnm h4 h5 h6]; rfl,hA36⟩
      ·refine aF hF O h5 ?_
       refine wS hF fun K24 hK24=>vX O<|vE hK24 fun a hF=>?_
       apply wp_ret
       simp only [Exit.then,Exit.inBlock]
       refine aO hF Tryz.results73 O ?_
       have hA37:Hp w0 (R) w7:=hpS 2 [] [0,1] hA8 rfl
       exact ⟨by rw [J6 h0 hnm h4 h5]; rfl,hA37⟩
     ·refine aF hF O h4 ?_
      refine wS hF fun K25 hK25=>vX O<|vE hK25 fun a hF=>?_
      apply wp_ret
      simp only [Exit.then,Exit.inBlock]
      refine aO hF Tryz.results73 O ?_
      have hA38:Hp w0 (R) w7:=hpS 2 [] [0,1] hA8 rfl
      exact ⟨by rw [OL h0 hnm h4]; rfl,hA38⟩
    ·refine aF hF O h3 ?_
     refine wS hF fun K26 hK26=>vX O<|vE hK26 fun a hF=>?_
     apply wp_ret
     simp only [Exit.then,Exit.inBlock]
     refine aO hF Tryz.results73 O ?_
     have hA39:Hp w0 (R) w7:=hpS 2 [] [0,1] hA8 rfl
     exact ⟨by rw [A7 h0 (.inr (.inr (Cb h3)))]; rfl,hA39⟩
   ·refine aF hF O h2 ?_
    apply wp_skip
    refine hK4 _ _ ?_
    refine aF hF O h2 ?_
    refine wS hF fun K27 hK27=>vX O<|vE hK27 fun a hF=>?_
    apply wp_ret
    simp only [Exit.then,Exit.inBlock]
    refine aO hF Tryz.results73 O ?_
    have hA40:Hp w0 (R) w7:=hpS 2 [] [0,1] hA8 rfl
    exact ⟨by rw [A7 h0 (.inr (.inl (Cb h2)))]; rfl,hA40⟩
  ·refine aF hF O h1 ?_
   apply wp_skip
   refine hK4 _ _ ?_
   refine aF hF O h1 ?_
   refine wS hF fun K28 hK28=>vX O<|vE hK28 fun a hF=>?_
   apply wp_ret
   simp only [Exit.then,Exit.inBlock]
   refine aO hF Tryz.results73 O ?_
   have hA41:Hp w0 (R) w7:=hpS 2 [] [0,1] hA8 rfl
   exact ⟨by rw [A7 h0 (.inl (Cb h1))]; rfl,hA41⟩
 ·refine aF hF O h0 ?_
  refine wS hF fun K29 hK29=>vX O<|vE hK29 fun a hF=>?_
  apply wp_ret
  simp only [Exit.then,Exit.inBlock]
  refine aO hF Tryz.results73 O ?_
  have hA42:Hp w0 (R) w7:=hpS 2 [] [0,1] hA8 rfl
  exact ⟨by rw [OH h0]; rfl,hA42⟩
end Go.Proofs.YtepbmdlgdaedpaaGreatDoor
