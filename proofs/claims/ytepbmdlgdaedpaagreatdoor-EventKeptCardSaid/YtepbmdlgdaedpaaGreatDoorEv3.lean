/- An event's fields: which there are, whether what is not is zero, what is refused. -/
import Derived.Test.YtepbmdlgdaedpaaGreatDoorEv2
import Derived.Test.YtepbmdlgdaedpaaGreatDoorRx
/- An event's fields: which there are, whether what is not is zero, what is refused. -/
namespace Go.Proofs.YtepbmdlgdaedpaaGreatDoor
open Go.RowKit Go.Dk
theorem kQ:bi Tryz.prog 4=true:=af
theorem uY:bi Tryz.prog 26=true:=af
theorem Hg:isRow Tryz.prog 31 44=true:=af
theorem jF:isRow Tryz.prog 129 6=true:=af
theorem kL:(Tryz.prog.info? 4).map (·.size)=some 1:=af
theorem nD:(Tryz.prog.info? 25).map (·.size)=some 4:=af
theorem uF:(Tryz.prog.info? 26).map (·.size)=some 1:=af
theorem kE:(Tryz.prog.info? 129).map (·.size)=some 6:=af
theorem AV:aK Tryz.prog 87:=⟨_,Tryz.func87,af,af⟩
theorem Gl:aK Tryz.prog 101:=⟨_,Tryz.func101,af,af⟩
theorem Gg:aK Tryz.prog 135:=⟨_,Tryz.func135,af,af⟩
theorem Gf:aK Tryz.prog 136:=⟨_,Tryz.func136,af,af⟩
theorem zQ:dB Tryz.prog 25 (.agg ([.int .i64 0,.int .i64 0,.string (⟨#[]⟩),.slice none 0 0]:List Value).toArray):=by unfold dB; kernel_rfl
theorem Dp:dB Tryz.prog 129 (.agg ([.bool false,.bool false,.bool false,.bool false,.bool false,.bool false]:List Value).toArray):=by unfold dB; kernel_rfl
theorem MB (w:World):(Instr.build 129 #[(0,.bool true),(5,.bool true)]).run Tryz.prog w= .ok (.agg ([.bool true,.bool false,.bool false,.bool false,.bool false,.bool true]:List Value).toArray) w:=af
theorem Me (w:World):(Instr.build 129 #[(1,.bool true),(0,.bool true)]).run Tryz.prog w= .ok (.agg ([.bool true,.bool true,.bool false,.bool false,.bool false,.bool false]:List Value).toArray) w:=af
theorem KC (w:World):(Instr.build 129 #[(1,.bool true),(2,.bool true),(3,.bool true)]).run Tryz.prog w= .ok (.agg ([.bool false,.bool true,.bool true,.bool true,.bool false,.bool false]:List Value).toArray) w:=af
theorem KA (w:World):(Instr.build 129 #[(1,.bool true),(2,.bool true),(4,.bool true)]).run Tryz.prog w= .ok (.agg ([.bool false,.bool true,.bool true,.bool false,.bool true,.bool false]:List Value).toArray) w:=af
theorem fb_ (w:World):(Instr.build 129 #[]).run Tryz.prog w= .ok (.agg ([.bool false,.bool false,.bool false,.bool false,.bool false,.bool false]:List Value).toArray) w:=af
def sQ (op:Int):List Value:=if jH op then (gU op).cells else noFld.cells
theorem Md {op:Int} (h:op=1):(.returned (.tuple #[.agg (sQ op).toArray,.bool (decide (jH op))]):Ending)= .returned (.tuple #[.agg ([.bool true,.bool false,.bool false,.bool false,.bool false,.bool true]:List Value).toArray,.bool true]):=by subst h; rfl
theorem Mc {op:Int} (h:op=2):(.returned (.tuple #[.agg (sQ op).toArray,.bool (decide (jH op))]):Ending)= .returned (.tuple #[.agg ([.bool true,.bool true,.bool false,.bool false,.bool false,.bool false]:List Value).toArray,.bool true]):=by subst h; rfl
theorem L9 {op:Int} (h:op=3):(.returned (.tuple #[.agg (sQ op).toArray,.bool (decide (jH op))]):Ending)= .returned (.tuple #[.agg ([.bool false,.bool true,.bool true,.bool true,.bool false,.bool false]:List Value).toArray,.bool true]):=by subst h; rfl
theorem L8 {op:Int} (h:op=4):(.returned (.tuple #[.agg (sQ op).toArray,.bool (decide (jH op))]):Ending)= .returned (.tuple #[.agg ([.bool false,.bool true,.bool true,.bool false,.bool true,.bool false]:List Value).toArray,.bool true]):=by subst h; rfl
theorem L6 {op:Int} (h:op=5):(.returned (.tuple #[.agg (sQ op).toArray,.bool (decide (jH op))]):Ending)= .returned (.tuple #[.agg ([.bool false,.bool false,.bool false,.bool false,.bool false,.bool false]:List Value).toArray,.bool true]):=by subst h; rfl
theorem LZ {op:Int} (h1:¬ op=1) (h2:¬ op=2) (h3:¬ op=3) (h4:¬ op=4) (h5:¬ op=5):(.returned (.tuple #[.agg (sQ op).toArray,.bool (decide (jH op))]):Ending)= .returned (.tuple #[.agg ([.bool false,.bool false,.bool false,.bool false,.bool false,.bool false]:List Value).toArray,.bool false]):=by
 have h:¬ jH op:=fun hh=>by unfold jH at hh; omega
 unfold sQ
 rw [if_neg h,decide_eq_false h]
 rfl
set_option maxRecDepth 100000 in
set_option maxHeartbeats 2000000 in
theorem uq {w0:World} {R:List Seg} (op:Int) (w:World) (hA:Hp w0 R w):Calls Tryz.prog 72 #[.int .i64 op] w fun e w'=>e= .returned (.tuple #[.agg (sQ op).toArray,.bool (decide (jH op))])∧Hp w0 R w':=by
 refine aP Tryz.func72 O Tryz.ntmps72 ai (fun a hF=>?_)
 refine wp_seq_k fun K1 hK1=>wp_region_lit ?_
 refine ax O (fun K hK=>dC hF O ae rfl hA (Dp) (fun b1 w2 a hb1 hF hA3=>hK _ _ ?_))
 refine vR hF<|vX O<|vE hK1<|wQ fun K2 hK2=>wT fun K3 hK3=>vX O<|vE hK3<|wBk<|wT fun K4 hK4=>vV O (aF O O O O O)<|vX O<|vE hK4 fun a hF=>?_
 by_cases hk1:op=1
 ·refine aG hF O (fF ag) ?_
  refine wS hF fun K5 hK5=>vV O (fM (qs := #[(0,.bool true),(5,.bool true)]) O O MB) fun a hF=>?_
  refine ax O (fun K hK=>bG (new:=[.bool true,.bool false,.bool false,.bool false,.bool false,.bool true]) hF O O hA3 O O 0 O O (by simp [Value.oneCell']) kE (fun w4 hA5=>hK _ _ ?_))
  replace hA5:Hp w0 ([row b1 129 [.bool true,.bool false,.bool false,.bool false,.bool false,.bool true]]::R) w4:=hA5
  refine vR hF<|vX O<|vE hK5 fun a hF=>?_
  apply wp_ret
  simp only [Exit.then,Exit.inBlock]
  refine fH hF Tryz.results72 hA5.q O O 0 O jF ?_
  have hA6:Hp w0 (R) w4:=hpS 1 [] [0] hA5 rfl
  exact ⟨by rw [Md hk1],hA6⟩
 ·by_cases hk2:op=2
  ·refine au hF O (bU ag) ?_
   refine wS hF fun K6 hK6=>vV O (aF O O O O O)<|vX O<|vE hK6 fun a hF=>?_
   refine aG hF O (fF ag) ?_
   refine wS hF fun K7 hK7=>vV O (fM (qs := #[(1,.bool true),(0,.bool true)]) O O Me) fun a hF=>?_
   refine ax O (fun K hK=>bG (new:=[.bool true,.bool true,.bool false,.bool false,.bool false,.bool false]) hF O O hA3 O O 0 O O (by simp [Value.oneCell']) kE (fun w7 hA8=>hK _ _ ?_))
   replace hA8:Hp w0 ([row b1 129 [.bool true,.bool true,.bool false,.bool false,.bool false,.bool false]]::R) w7:=hA8
   refine vR hF<|vX O<|vE hK7 fun a hF=>?_
   apply wp_ret
   simp only [Exit.then,Exit.inBlock]
   refine fH hF Tryz.results72 hA8.q O O 0 O jF ?_
   have hA9:Hp w0 (R) w7:=hpS 1 [] [0] hA8 rfl
   exact ⟨by rw [Mc hk2],hA9⟩
  ·by_cases hk3:op=3
   ·refine au hF O (bU ag) ?_
    refine wS hF fun K8 hK8=>vV O (aF O O O O O)<|vX O<|vE hK8 fun a hF=>?_
    refine au hF O (bU ag) ?_
    refine wS hF fun K9 hK9=>vV O (aF O O O O O)<|vX O<|vE hK9 fun a hF=>?_
    refine aG hF O (fF ag) ?_
    refine wS hF fun K10 hK10=>vV O (fM (qs := #[(1,.bool true),(2,.bool true),(3,.bool true)]) O O KC) fun a hF=>?_
    refine ax O (fun K hK=>bG (new:=[.bool false,.bool true,.bool true,.bool true,.bool false,.bool false]) hF O O hA3 O O 0 O O (by simp [Value.oneCell']) kE (fun w10 hA11=>hK _ _ ?_))
    replace hA11:Hp w0 ([row b1 129 [.bool false,.bool true,.bool true,.bool true,.bool false,.bool false]]::R) w10:=hA11
    refine vR hF<|vX O<|vE hK10 fun a hF=>?_
    apply wp_ret
    simp only [Exit.then,Exit.inBlock]
    refine fH hF Tryz.results72 hA11.q O O 0 O jF ?_
    have hA12:Hp w0 (R) w10:=hpS 1 [] [0] hA11 rfl
    exact ⟨by rw [L9 hk3],hA12⟩
   ·by_cases hk4:op=4
    ·refine au hF O (bU ag) ?_
     refine wS hF fun K11 hK11=>vV O (aF O O O O O)<|vX O<|vE hK11 fun a hF=>?_
     refine au hF O (bU ag) ?_
     refine wS hF fun K12 hK12=>vV O (aF O O O O O)<|vX O<|vE hK12 fun a hF=>?_
     refine au hF O (bU ag) ?_
     refine wS hF fun K13 hK13=>vV O (aF O O O O O)<|vX O<|vE hK13 fun a hF=>?_
     refine aG hF O (fF ag) ?_
     refine wS hF fun K14 hK14=>vV O (fM (qs := #[(1,.bool true),(2,.bool true),(4,.bool true)]) O O KA) fun a hF=>?_
     refine ax O (fun K hK=>bG (new:=[.bool false,.bool true,.bool true,.bool false,.bool true,.bool false]) hF O O hA3 O O 0 O O (by simp [Value.oneCell']) kE (fun w13 hA14=>hK _ _ ?_))
     replace hA14:Hp w0 ([row b1 129 [.bool false,.bool true,.bool true,.bool false,.bool true,.bool false]]::R) w13:=hA14
     refine vR hF<|vX O<|vE hK14 fun a hF=>?_
     apply wp_ret
     simp only [Exit.then,Exit.inBlock]
     refine fH hF Tryz.results72 hA14.q O O 0 O jF ?_
     have hA15:Hp w0 (R) w13:=hpS 1 [] [0] hA14 rfl
     exact ⟨by rw [L8 hk4],hA15⟩
    ·by_cases hk5:op=5
     ·refine au hF O (bU ag) ?_
      refine wS hF fun K15 hK15=>vV O (aF O O O O O)<|vX O<|vE hK15 fun a hF=>?_
      refine au hF O (bU ag) ?_
      refine wS hF fun K16 hK16=>vV O (aF O O O O O)<|vX O<|vE hK16 fun a hF=>?_
      refine au hF O (bU ag) ?_
      refine wS hF fun K17 hK17=>vV O (aF O O O O O)<|vX O<|vE hK17 fun a hF=>?_
      refine au hF O (bU ag) ?_
      refine wS hF fun K18 hK18=>vV O (aF O O O O O)<|vX O<|vE hK18 fun a hF=>?_
      refine aG hF O (fF ag) ?_
      refine wS hF fun K19 hK19=>vV O (eX O fb_) fun a hF=>?_
      refine ax O (fun K hK=>bG (new:=[.bool false,.bool false,.bool false,.bool false,.bool false,.bool false]) hF O O hA3 O O 0 O O (by simp [Value.oneCell']) kE (fun w16 hA17=>hK _ _ ?_))
      replace hA17:Hp w0 ([row b1 129 [.bool false,.bool false,.bool false,.bool false,.bool false,.bool false]]::R) w16:=hA17
      refine vR hF<|vX O<|vE hK19 fun a hF=>?_
      apply wp_ret
      simp only [Exit.then,Exit.inBlock]
      refine fH hF Tryz.results72 hA17.q O O 0 O jF ?_
      have hA18:Hp w0 (R) w16:=hpS 1 [] [0] hA17 rfl
      exact ⟨by rw [L6 hk5],hA18⟩
     ·refine au hF O (bU ag) ?_
      refine wS hF fun K20 hK20=>vV O (aF O O O O O)<|vX O<|vE hK20 fun a hF=>?_
      refine au hF O (bU ag) ?_
      refine wS hF fun K21 hK21=>vV O (aF O O O O O)<|vX O<|vE hK21 fun a hF=>?_
      refine au hF O (bU ag) ?_
      refine wS hF fun K22 hK22=>vV O (aF O O O O O)<|vX O<|vE hK22 fun a hF=>?_
      refine au hF O (bU ag) ?_
      refine wS hF fun K23 hK23=>vV O (aF O O O O O)<|vX O<|vE hK23 fun a hF=>?_
      refine au hF O (bU ag) ?_
      apply wp_skip
      refine hK2 _ _ ?_
      refine wS hF fun K24 hK24=>vV O (eX O fb_) fun a hF=>?_
      refine ax O (fun K hK=>bG (new:=[.bool false,.bool false,.bool false,.bool false,.bool false,.bool false]) hF O O hA3 O O 0 O O (by simp [Value.oneCell']) kE (fun w19 hA20=>hK _ _ ?_))
      replace hA20:Hp w0 ([row b1 129 [.bool false,.bool false,.bool false,.bool false,.bool false,.bool false]]::R) w19:=hA20
      refine vR hF<|vX O<|vE hK24 fun a hF=>?_
      apply wp_ret
      refine fH hF Tryz.results72 hA20.q O O 0 O jF ?_
      have hA21:Hp w0 (R) w19:=hpS 1 [] [0] hA20 rfl
      exact ⟨by rw [LZ hk1 hk2 hk3 hk4 hk5],hA21⟩
structure EA where
 op:Int
 num:Int
 clk:Int
 typ:List UInt8
 cas:List UInt8
 nam:List UInt8
 v:VA
 args:List VA
 aA:Option Addr
 aC:Nat
 src:List UInt8
 bA:Option Addr
 bC:Nat
 eff:List UInt8
abbrev EA.cells (e:EA):List Value:=[.int .i64 e.op,.int .i64 e.num,.int .i64 e.clk,aj e.typ,aj e.cas,aj e.nam,.int .i64 e.v.v.k,.int .i64 e.v.v.n,aj e.v.v.t,.slice e.v.sA e.v.v.s.length e.v.sC,.slice e.aA e.args.length e.aC,.slice e.bA e.src.length e.bC]++dc e.eff
def EA.ev (e:EA):Ev:=⟨e.op,e.num,e.clk,e.typ,e.cas,e.nam,e.v.v,e.args.map VA.v,e.src,e.eff⟩
abbrev mM (l:List VA):List Value:=(l.map VA.cells).flatten
structure EA.Ok (w0:World) (G:List Seg) (e:EA):Prop where
 v:e.v.Ok w0 G
 args:∀ a∈e.args,a.Ok w0 G
 rc:Rc w0 G e.aA (mM e.args)
 n:e.args.length≤9223372036854775807
 src:Rd w0 G e.bA e.src
 sn:e.src.length≤9223372036854775807
 i:e.ev.In
theorem ql (l:List UInt8):bJ .eql l []=decide (l=[]):=by
 unfold bJ
 rw [Bool.eq_iff_iff]
 simp
theorem len_nil {α:Type} (l:List α):aI .eql ((l.length:Nat):Int) 0=decide (l=[]):=by
 unfold aI
 rw [Bool.eq_iff_iff]
 simp
theorem Ap (z:Int):aI .eql z 0=decide (z=0):=by
 unfold aI
 rw [Bool.eq_iff_iff]
 simp
theorem DN (ea:EA) (f:Fld):(((((((f.typed) || (bJ .eql ea.typ [])) && ((f.cased) || (bJ .eql ea.cas []))) && ((f.named) || (bJ .eql ea.nam []))) && ((f.valued) || ((((aI .eql (ea.v.v.k) (0)) && (aI .eql (ea.v.v.n) (0))) && (bJ .eql ea.v.v.t [])) && (aI .eql (ea.v.v.s.length) (0))))) && ((f.args) || (aI .eql (ea.args.length) (0)))) && ((f.source) || (aI .eql (ea.src.length) (0))))=dJ ea.ev f:=by
 rw [ql,ql,ql,ql,Ap,Ap,len_nil,len_nil,len_nil]
 unfold dJ Val.nothing EA.ev
 simp only [Bool.decide_and,List.map_eq_nil_iff,Bool.and_assoc]
set_option maxRecDepth 100000 in
set_option maxHeartbeats 2000000 in
theorem EW {w0:World} {R:List Seg} {G:List Seg} (ea:EA) (f:Fld) (w:World) (hV:ea.Ok w0 G) (hG:G⊆R) (hA:Hp w0 R w):Calls Tryz.prog 135 #[.agg ea.cells.toArray,.agg f.cells.toArray] w fun e w'=>e= .returned (.bool (dJ ea.ev f))∧Hp w0 R w':=by
 have he32:ea.eff.length=32:=hV.i.2.2.2.2.2
 have hn:=hV.n
 have hsn:=hV.sn
 have hvn:=hV.v.n
 refine aP Tryz.func135 O Tryz.ntmps135 ai (fun a hF=>?_)
 refine wp_seq_k fun K1 hK1=>wp_region_lit ?_
 refine ax O (fun K hK=>ed (cs:=ea.cells) hF O ae rfl hA O (fun b1 w2 a hb1 hF hA3=>hK _ _ ?_))
 refine ax O (fun K hK=>ed (cs:=[.bool f.typed,.bool f.cased,.bool f.named,.bool f.valued,.bool f.args,.bool f.source]) hF O ae rfl hA3 O (fun b4 w5 a hb4 hF hA6=>hK _ _ ?_))
 refine vR hF<|vX O<|vE hK1<|wT fun K2 hK2=>vV O (yf 6 O NE O nD O)<|vV O (cZ (new:=[.int .i64 ea.v.v.k,.int .i64 ea.v.v.n,aj ea.v.v.t,.slice ea.v.sA ea.v.v.s.length ea.v.sC]) O hA6.q O 1 O Ho (by rw [List.length_append]; exact Nat.le_add_right_of_le ai) rfl) fun a hF=>?_
 refine ax O (fun K hK=>dC hF O ae rfl hA6 (zQ) (fun b7 w8 a hb7 hF hA9=>hK _ _ ?_))
 refine ax O (fun K hK=>bG (new:=[.int .i64 ea.v.v.k,.int .i64 ea.v.v.n,aj ea.v.v.t,.slice ea.v.sA ea.v.v.s.length ea.v.sC]) hF O O hA9 O O 0 O O (by simp [Value.oneCell']) nD (fun w10 hA11=>hK _ _ ?_))
 replace hA11:Hp w0 ([row b7 25 [.int .i64 ea.v.v.k,.int .i64 ea.v.v.n,aj ea.v.v.t,.slice ea.v.sA ea.v.v.s.length ea.v.sC]]::[row b4 129 [.bool f.typed,.bool f.cased,.bool f.named,.bool f.valued,.bool f.args,.bool f.source]]::[row b1 31 ([.int .i64 ea.op,.int .i64 ea.num,.int .i64 ea.clk,aj ea.typ,aj ea.cas,aj ea.nam,.int .i64 ea.v.v.k,.int .i64 ea.v.v.n,aj ea.v.v.t,.slice ea.v.sA ea.v.v.s.length ea.v.sC,.slice ea.aA ea.args.length ea.aC,.slice ea.bA ea.src.length ea.bC]++dc ea.eff)]::R) w10:=hA11
 refine aH<|hK2 _ _ ?_
 refine wS hF fun K3 hK3=>vV O (yf 0 O NF O kL O)<|vV O (aU O hA11.q O 1 O O kQ)<|vX O fun a hF=>?_
 refine bK (l2:=?lA1) hF [(14,.bool ((f.typed) || (bJ .eql ea.typ []))),(0,.agg (ea.cells).toArray),(1,.agg ([.bool f.typed,.bool f.cased,.bool f.named,.bool f.valued,.bool f.args,.bool f.source]).toArray),(2,.pointer (some ⟨b1,0,none⟩)),(3,.pointer (some ⟨b4,0,none⟩)),(4,.bool false),(6,.pointer (some ⟨b1,6,none⟩)),(7,.agg ([.int .i64 ea.v.v.k,.int .i64 ea.v.v.n,aj ea.v.v.t,.slice ea.v.sA ea.v.v.s.length ea.v.sC]).toArray),(5,.pointer (some ⟨b7,0,none⟩))] (fun hJ1=>?elA1) (fun a hF=>?flA1)
 case elA1 =>
  rcases tf (f.typed) with hg1 | hg1
  ·refine aJ hF O O O O (ak hg1) ae _ (yf 3 O NE O uB O) (fun a hF=>?_)
   refine aJ hF O O O O (ak hg1) ae _ (aU O hA11.q O 2 O O uU) (fun a hF=>?_)
   refine aJ hF O O O O (ak hg1) ae _ (fA O O O O O) (fun a hF=>?_)
   refine vR hF<|vV O (bu hg1 rfl rfl rfl) fun a hF=>?_
   exact hJ1 _ ((hF.keep [14,0,1,2,3,4,6,7,5] (F':=[(14,_),(0,_),(1,_),(2,_),(3,_),(4,_),(6,_),(7,_),(5,_)]) O).bool (by rw [hg1]; rfl))
  ·refine az hF O O O O O (aB hg1) ae (fun a hF=>?_)
   refine az hF O O O O O (aB hg1) ae (fun a hF=>?_)
   refine az hF O O O O O (aB hg1) ae (fun a hF=>?_)
   refine vR hF<|vV O (bF hg1 rfl rfl rfl) fun a hF=>?_
   exact hJ1 _ ((hF.keep [14,0,1,2,3,4,6,7,5] (F':=[(14,_),(0,_),(1,_),(2,_),(3,_),(4,_),(6,_),(7,_),(5,_)]) O).bool (by rw [hg1]; rfl))
 refine vR hF<|vX O fun a hF=>?_
 refine bK (l2:=?lA2) hF [(23,.bool (((f.typed) || (bJ .eql ea.typ [])) && ((f.cased) || (bJ .eql ea.cas [])))),(0,.agg (ea.cells).toArray),(1,.agg ([.bool f.typed,.bool f.cased,.bool f.named,.bool f.valued,.bool f.args,.bool f.source]).toArray),(2,.pointer (some ⟨b1,0,none⟩)),(3,.pointer (some ⟨b4,0,none⟩)),(4,.bool false),(6,.pointer (some ⟨b1,6,none⟩)),(7,.agg ([.int .i64 ea.v.v.k,.int .i64 ea.v.v.n,aj ea.v.v.t,.slice ea.v.sA ea.v.v.s.length ea.v.sC]).toArray),(5,.pointer (some ⟨b7,0,none⟩))] (fun hJ2=>?elA2) (fun a hF=>?flA2)
 case elA2 =>
  rcases tf ((f.typed) || (bJ .eql ea.typ [])) with hg2 | hg2
  ·refine az hF O O O O O (aB hg2) ae (fun a hF=>?_)
   refine az hF O O O O O (aB hg2) ae (fun a hF=>?_)
   refine az hF O O O O O (aB hg2) ae (fun a hF=>?_)
   refine bD hF O O O O O ae (fun a hF=>?_)
   refine bD hF O O O O O ae (fun a hF=>?_)
   refine bD hF O O O O O ae (fun a hF=>?_)
   refine az hF O O O O O (aB hg2) ae (fun a hF=>?_)
   refine vR hF<|vV O (bu hg2 rfl rfl rfl) fun a hF=>?_
   exact hJ2 _ ((hF.keep [23,0,1,2,3,4,6,7,5] (F':=[(23,_),(0,_),(1,_),(2,_),(3,_),(4,_),(6,_),(7,_),(5,_)]) O).bool (by rw [hg2]; rfl))
  ·refine aJ hF O O O O (ak hg2) ae _ (yf 1 O NF O kL O) (fun a hF=>?_)
   refine aJ hF O O O O (ak hg2) ae _ (aU O hA11.q O 1 O O kQ) (fun a hF=>?_)
   refine aJ hF O O O O (ak hg2) ae _ (aV O O) (fun a hF=>?_)
   refine bK (l2:=?lA3) hF [(22,.bool ((f.cased) || (bJ .eql ea.cas []))),(0,.agg (ea.cells).toArray),(1,.agg ([.bool f.typed,.bool f.cased,.bool f.named,.bool f.valued,.bool f.args,.bool f.source]).toArray),(2,.pointer (some ⟨b1,0,none⟩)),(3,.pointer (some ⟨b4,0,none⟩)),(4,.bool false),(6,.pointer (some ⟨b1,6,none⟩)),(7,.agg ([.int .i64 ea.v.v.k,.int .i64 ea.v.v.n,aj ea.v.v.t,.slice ea.v.sA ea.v.v.s.length ea.v.sC]).toArray),(5,.pointer (some ⟨b7,0,none⟩)),(15,.bool ((f.typed) || (bJ .eql ea.typ [])))] (fun hJ3=>?elA3) (fun a hF=>?flA3)
   case elA3 =>
    rcases tf (f.cased) with hg3 | hg3
    ·refine aJ hF O O O O (ak hg3) ae _ (yf 4 O NE O uB O) (fun a hF=>?_)
     refine aJ hF O O O O (ak hg3) ae _ (aU O hA11.q O 2 O O uU) (fun a hF=>?_)
     refine aJ hF O O O O (ak hg3) ae _ (fA O O O O O) (fun a hF=>?_)
     refine aJ hF O O O O (ak hg2) ae _ (bu hg3 rfl rfl rfl) (fun a hF=>?_)
     exact hJ3 _ ((hF.keep [22,0,1,2,3,4,6,7,5,15] (F':=[(22,_),(0,_),(1,_),(2,_),(3,_),(4,_),(6,_),(7,_),(5,_),(15,_)]) O).bool (by rw [hg3]; rfl))
    ·refine az hF O O O O O (aB hg3) ae (fun a hF=>?_)
     refine az hF O O O O O (aB hg3) ae (fun a hF=>?_)
     refine az hF O O O O O (aB hg3) ae (fun a hF=>?_)
     refine aJ hF O O O O (ak hg2) ae _ (bF hg3 rfl rfl rfl) (fun a hF=>?_)
     exact hJ3 _ ((hF.keep [22,0,1,2,3,4,6,7,5,15] (F':=[(22,_),(0,_),(1,_),(2,_),(3,_),(4,_),(6,_),(7,_),(5,_),(15,_)]) O).bool (by rw [hg3]; rfl))
   refine vR hF<|vV O (bF hg2 rfl rfl rfl) fun a hF=>?_
   exact hJ2 _ ((hF.keep [23,0,1,2,3,4,6,7,5] (F':=[(23,_),(0,_),(1,_),(2,_),(3,_),(4,_),(6,_),(7,_),(5,_)]) O).bool (by rw [hg2]; rfl))
 refine vR hF<|vX O fun a hF=>?_
 refine bK (l2:=?lA4) hF [(32,.bool ((((f.typed) || (bJ .eql ea.typ [])) && ((f.cased) || (bJ .eql ea.cas []))) && ((f.named) || (bJ .eql ea.nam [])))),(0,.agg (ea.cells).toArray),(1,.agg ([.bool f.typed,.bool f.cased,.bool f.named,.bool f.valued,.bool f.args,.bool f.source]).toArray),(2,.pointer (some ⟨b1,0,none⟩)),(3,.pointer (some ⟨b4,0,none⟩)),(4,.bool false),(6,.pointer (some ⟨b1,6,none⟩)),(7,.agg ([.int .i64 ea.v.v.k,.int .i64 ea.v.v.n,aj ea.v.v.t,.slice ea.v.sA ea.v.v.s.length ea.v.sC]).toArray),(5,.pointer (some ⟨b7,0,none⟩))] (fun hJ4=>?elA4) (fun a hF=>?flA4)
 case elA4 =>
  rcases tf (((f.typed) || (bJ .eql ea.typ [])) && ((f.cased) || (bJ .eql ea.cas []))) with hg4 | hg4
  ·refine az hF O O O O O (aB hg4) ae (fun a hF=>?_)
   refine az hF O O O O O (aB hg4) ae (fun a hF=>?_)
   refine az hF O O O O O (aB hg4) ae (fun a hF=>?_)
   refine bD hF O O O O O ae (fun a hF=>?_)
   refine bD hF O O O O O ae (fun a hF=>?_)
   refine bD hF O O O O O ae (fun a hF=>?_)
   refine az hF O O O O O (aB hg4) ae (fun a hF=>?_)
   refine vR hF<|vV O (bu hg4 rfl rfl rfl) fun a hF=>?_
   exact hJ4 _ ((hF.keep [32,0,1,2,3,4,6,7,5] (F':=[(32,_),(0,_),(1,_),(2,_),(3,_),(4,_),(6,_),(7,_),(5,_)]) O).bool (by rw [hg4]; rfl))
  ·refine aJ hF O O O O (ak hg4) ae _ (yf 2 O NF O kL O) (fun a hF=>?_)
   refine aJ hF O O O O (ak hg4) ae _ (aU O hA11.q O 1 O O kQ) (fun a hF=>?_)
   refine aJ hF O O O O (ak hg4) ae _ (aV O O) (fun a hF=>?_)
   refine bK (l2:=?lA5) hF [(31,.bool ((f.named) || (bJ .eql ea.nam []))),(0,.agg (ea.cells).toArray),(1,.agg ([.bool f.typed,.bool f.cased,.bool f.named,.bool f.valued,.bool f.args,.bool f.source]).toArray),(2,.pointer (some ⟨b1,0,none⟩)),(3,.pointer (some ⟨b4,0,none⟩)),(4,.bool false),(6,.pointer (some ⟨b1,6,none⟩)),(7,.agg ([.int .i64 ea.v.v.k,.int .i64 ea.v.v.n,aj ea.v.v.t,.slice ea.v.sA ea.v.v.s.length ea.v.sC]).toArray),(5,.pointer (some ⟨b7,0,none⟩)),(24,.bool (((f.typed) || (bJ .eql ea.typ [])) && ((f.cased) || (bJ .eql ea.cas []))))] (fun hJ5=>?elA5) (fun a hF=>?flA5)
   case elA5 =>
    rcases tf (f.named) with hg5 | hg5
    ·refine aJ hF O O O O (ak hg5) ae _ (yf 5 O NE O uB O) (fun a hF=>?_)
     refine aJ hF O O O O (ak hg5) ae _ (aU O hA11.q O 2 O O uU) (fun a hF=>?_)
     refine aJ hF O O O O (ak hg5) ae _ (fA O O O O O) (fun a hF=>?_)
     refine aJ hF O O O O (ak hg4) ae _ (bu hg5 rfl rfl rfl) (fun a hF=>?_)
     exact hJ5 _ ((hF.keep [31,0,1,2,3,4,6,7,5,24] (F':=[(31,_),(0,_),(1,_),(2,_),(3,_),(4,_),(6,_),(7,_),(5,_),(24,_)]) O).bool (by rw [hg5]; rfl))
    ·refine az hF O O O O O (aB hg5) ae (fun a hF=>?_)
     refine az hF O O O O O (aB hg5) ae (fun a hF=>?_)
     refine az hF O O O O O (aB hg5) ae (fun a hF=>?_)
     refine aJ hF O O O O (ak hg4) ae _ (bF hg5 rfl rfl rfl) (fun a hF=>?_)
     exact hJ5 _ ((hF.keep [31,0,1,2,3,4,6,7,5,24] (F':=[(31,_),(0,_),(1,_),(2,_),(3,_),(4,_),(6,_),(7,_),(5,_),(24,_)]) O).bool (by rw [hg5]; rfl))
   refine vR hF<|vV O (bF hg4 rfl rfl rfl) fun a hF=>?_
   exact hJ4 _ ((hF.keep [32,0,1,2,3,4,6,7,5] (F':=[(32,_),(0,_),(1,_),(2,_),(3,_),(4,_),(6,_),(7,_),(5,_)]) O).bool (by rw [hg4]; rfl))
 refine vR hF<|vX O fun a hF=>?_
 refine bK (l2:=?lA6) hF [(57,.bool (((((f.typed) || (bJ .eql ea.typ [])) && ((f.cased) || (bJ .eql ea.cas []))) && ((f.named) || (bJ .eql ea.nam []))) && ((f.valued) || ((((aI .eql (ea.v.v.k) (0)) && (aI .eql (ea.v.v.n) (0))) && (bJ .eql ea.v.v.t [])) && (aI .eql (ea.v.v.s.length) (0)))))),(0,.agg (ea.cells).toArray),(1,.agg ([.bool f.typed,.bool f.cased,.bool f.named,.bool f.valued,.bool f.args,.bool f.source]).toArray),(2,.pointer (some ⟨b1,0,none⟩)),(3,.pointer (some ⟨b4,0,none⟩)),(4,.bool false),(6,.pointer (some ⟨b1,6,none⟩)),(7,.agg ([.int .i64 ea.v.v.k,.int .i64 ea.v.v.n,aj ea.v.v.t,.slice ea.v.sA ea.v.v.s.length ea.v.sC]).toArray),(5,.pointer (some ⟨b7,0,none⟩))] (fun hJ6=>?elA6) (fun a hF=>?flA6)
 case elA6 =>
  rcases tf ((((f.typed) || (bJ .eql ea.typ [])) && ((f.cased) || (bJ .eql ea.cas []))) && ((f.named) || (bJ .eql ea.nam []))) with hg6 | hg6
  ·refine az hF O O O O O (aB hg6) ae (fun a hF=>?_)
   refine az hF O O O O O (aB hg6) ae (fun a hF=>?_)
   refine az hF O O O O O (aB hg6) ae (fun a hF=>?_)
   refine bD hF O O O O O ae (fun a hF=>?_)
   refine bD hF O O O O O ae (fun a hF=>?_)
   refine bD hF O O O O O ae (fun a hF=>?_)
   refine bD hF O O O O O ae (fun a hF=>?_)
   refine bD hF O O O O O ae (fun a hF=>?_)
   refine bD hF O O O O O ae (fun a hF=>?_)
   refine bD hF O O O O O ae (fun a hF=>?_)
   refine bD hF O O O O O ae (fun a hF=>?_)
   refine bD hF O O O O O ae (fun a hF=>?_)
   refine bD hF O O O O O ae (fun a hF=>?_)
   refine bD hF O O O O O ae (fun a hF=>?_)
   refine bD hF O O O O O ae (fun a hF=>?_)
   refine bD hF O O O O O ae (fun a hF=>?_)
   refine bD hF O O O O O ae (fun a hF=>?_)
   refine bD hF O O O O O ae (fun a hF=>?_)
   refine bD hF O O O O O ae (fun a hF=>?_)
   refine bD hF O O O O O ae (fun a hF=>?_)
   refine bD hF O O O O O ae (fun a hF=>?_)
   refine bD hF O O O O O ae (fun a hF=>?_)
   refine az hF O O O O O (aB hg6) ae (fun a hF=>?_)
   refine vR hF<|vV O (bu hg6 rfl rfl rfl) fun a hF=>?_
   exact hJ6 _ ((hF.keep [57,0,1,2,3,4,6,7,5] (F':=[(57,_),(0,_),(1,_),(2,_),(3,_),(4,_),(6,_),(7,_),(5,_)]) O).bool (by rw [hg6]; rfl))
  ·refine aJ hF O O O O (ak hg6) ae _ (yf 3 O NF O kL O) (fun a hF=>?_)
   refine aJ hF O O O O (ak hg6) ae _ (aU O hA11.q O 1 O O kQ) (fun a hF=>?_)
   refine aJ hF O O O O (ak hg6) ae _ (aV O O) (fun a hF=>?_)
   refine bK (l2:=?lA7) hF [(56,.bool ((f.valued) || ((((aI .eql (ea.v.v.k) (0)) && (aI .eql (ea.v.v.n) (0))) && (bJ .eql ea.v.v.t [])) && (aI .eql (ea.v.v.s.length) (0))))),(0,.agg (ea.cells).toArray),(1,.agg ([.bool f.typed,.bool f.cased,.bool f.named,.bool f.valued,.bool f.args,.bool f.source]).toArray),(2,.pointer (some ⟨b1,0,none⟩)),(3,.pointer (some ⟨b4,0,none⟩)),(4,.bool false),(6,.pointer (some ⟨b1,6,none⟩)),(7,.agg ([.int .i64 ea.v.v.k,.int .i64 ea.v.v.n,aj ea.v.v.t,.slice ea.v.sA ea.v.v.s.length ea.v.sC]).toArray),(5,.pointer (some ⟨b7,0,none⟩)),(33,.bool ((((f.typed) || (bJ .eql ea.typ [])) && ((f.cased) || (bJ .eql ea.cas []))) && ((f.named) || (bJ .eql ea.nam []))))] (fun hJ7=>?elA7) (fun a hF=>?flA7)
   case elA7 =>
    rcases tf (f.valued) with hg7 | hg7
    ·refine aJ hF O O O O (ak hg7) ae _ (yf 0 O ND O iZ O) (fun a hF=>?_)
     refine aJ hF O O O O (ak hg7) ae _ (aU O hA11.q O 0 O O ja) (fun a hF=>?_)
     refine aJ hF O O O O (ak hg7) ae _ (aF O O O O O) (fun a hF=>?_)
     refine aJ hF O O O O (ak hg7) ae _ (aV O O) (fun a hF=>?_)
     refine bK (l2:=?lA8) hF [(44,.bool ((aI .eql (ea.v.v.k) (0)) && (aI .eql (ea.v.v.n) (0)))),(0,.agg (ea.cells).toArray),(1,.agg ([.bool f.typed,.bool f.cased,.bool f.named,.bool f.valued,.bool f.args,.bool f.source]).toArray),(2,.pointer (some ⟨b1,0,none⟩)),(3,.pointer (some ⟨b4,0,none⟩)),(4,.bool false),(6,.pointer (some ⟨b1,6,none⟩)),(7,.agg ([.int .i64 ea.v.v.k,.int .i64 ea.v.v.n,aj ea.v.v.t,.slice ea.v.sA ea.v.v.s.length ea.v.sC]).toArray),(5,.pointer (some ⟨b7,0,none⟩)),(33,.bool ((((f.typed) || (bJ .eql ea.typ [])) && ((f.cased) || (bJ .eql ea.cas []))) && ((f.named) || (bJ .eql ea.nam [])))),(36,.bool f.valued)] (fun hJ8=>?elA8) (fun a hF=>?flA8)
     case elA8 =>
      rcases tf (aI .eql (ea.v.v.k) (0)) with hg8 | hg8
      ·refine az hF O O O O O (aB hg8) ae (fun a hF=>?_)
       refine az hF O O O O O (aB hg8) ae (fun a hF=>?_)
       refine az hF O O O O O (aB hg8) ae (fun a hF=>?_)
       refine aJ hF O O O O (ak hg7) ae _ (bu hg8 rfl rfl rfl) (fun a hF=>?_)
       exact hJ8 _ ((hF.keep [44,0,1,2,3,4,6,7,5,33,36] (F':=[(44,_),(0,_),(1,_),(2,_),(3,_),(4,_),(6,_),(7,_),(5,_),(33,_),(36,_)]) O).bool (by rw [hg8]; rfl))
      ·refine aJ hF O O O O (ak hg8) ae _ (yf 1 O ND O gZ O) (fun a hF=>?_)
       refine aJ hF O O O O (ak hg8) ae _ (aU O hA11.q O 0 O O jZ) (fun a hF=>?_)
       refine aJ hF O O O O (ak hg8) ae _ (aF O O O O O) (fun a hF=>?_)
       refine aJ hF O O O O (ak hg7) ae _ (bF hg8 rfl rfl rfl) (fun a hF=>?_)
       exact hJ8 _ ((hF.keep [44,0,1,2,3,4,6,7,5,33,36] (F':=[(44,_),(0,_),(1,_),(2,_),(3,_),(4,_),(6,_),(7,_),(5,_),(33,_),(36,_)]) O).bool (by rw [hg8]; rfl))
     refine aJ hF O O O O (ak hg7) ae _ (aV O O) (fun a hF=>?_)
     refine bK (l2:=?lA9) hF [(49,.bool (((aI .eql (ea.v.v.k) (0)) && (aI .eql (ea.v.v.n) (0))) && (bJ .eql ea.v.v.t []))),(0,.agg (ea.cells).toArray),(1,.agg ([.bool f.typed,.bool f.cased,.bool f.named,.bool f.valued,.bool f.args,.bool f.source]).toArray),(2,.pointer (some ⟨b1,0,none⟩)),(3,.pointer (some ⟨b4,0,none⟩)),(4,.bool false),(6,.pointer (some ⟨b1,6,none⟩)),(7,.agg ([.int .i64 ea.v.v.k,.int .i64 ea.v.v.n,aj ea.v.v.t,.slice ea.v.sA ea.v.v.s.length ea.v.sC]).toArray),(5,.pointer (some ⟨b7,0,none⟩)),(33,.bool ((((f.typed) || (bJ .eql ea.typ [])) && ((f.cased) || (bJ .eql ea.cas []))) && ((f.named) || (bJ .eql ea.nam [])))),(36,.bool f.valued)] (fun hJ9=>?elA9) (fun a hF=>?flA9)
     case elA9 =>
      rcases tf ((aI .eql (ea.v.v.k) (0)) && (aI .eql (ea.v.v.n) (0))) with hg9 | hg9
      ·refine az hF O O O O O (aB hg9) ae (fun a hF=>?_)
       refine az hF O O O O O (aB hg9) ae (fun a hF=>?_)
       refine az hF O O O O O (aB hg9) ae (fun a hF=>?_)
       refine aJ hF O O O O (ak hg7) ae _ (bu hg9 rfl rfl rfl) (fun a hF=>?_)
       exact hJ9 _ ((hF.keep [49,0,1,2,3,4,6,7,5,33,36] (F':=[(49,_),(0,_),(1,_),(2,_),(3,_),(4,_),(6,_),(7,_),(5,_),(33,_),(36,_)]) O).bool (by rw [hg9]; rfl))
      ·refine aJ hF O O O O (ak hg9) ae _ (yf 2 O ND O uB O) (fun a hF=>?_)
       refine aJ hF O O O O (ak hg9) ae _ (aU O hA11.q O 0 O O uU) (fun a hF=>?_)
       refine aJ hF O O O O (ak hg9) ae _ (fA O O O O O) (fun a hF=>?_)
       refine aJ hF O O O O (ak hg7) ae _ (bF hg9 rfl rfl rfl) (fun a hF=>?_)
       exact hJ9 _ ((hF.keep [49,0,1,2,3,4,6,7,5,33,36] (F':=[(49,_),(0,_),(1,_),(2,_),(3,_),(4,_),(6,_),(7,_),(5,_),(33,_),(36,_)]) O).bool (by rw [hg9]; rfl))
     refine aJ hF O O O O (ak hg7) ae _ (aV O O) (fun a hF=>?_)
     refine bK (l2:=?lA10) hF [(55,.bool ((((aI .eql (ea.v.v.k) (0)) && (aI .eql (ea.v.v.n) (0))) && (bJ .eql ea.v.v.t [])) && (aI .eql (ea.v.v.s.length) (0)))),(0,.agg (ea.cells).toArray),(1,.agg ([.bool f.typed,.bool f.cased,.bool f.named,.bool f.valued,.bool f.args,.bool f.source]).toArray),(2,.pointer (some ⟨b1,0,none⟩)),(3,.pointer (some ⟨b4,0,none⟩)),(4,.bool false),(6,.pointer (some ⟨b1,6,none⟩)),(7,.agg ([.int .i64 ea.v.v.k,.int .i64 ea.v.v.n,aj ea.v.v.t,.slice ea.v.sA ea.v.v.s.length ea.v.sC]).toArray),(5,.pointer (some ⟨b7,0,none⟩)),(33,.bool ((((f.typed) || (bJ .eql ea.typ [])) && ((f.cased) || (bJ .eql ea.cas []))) && ((f.named) || (bJ .eql ea.nam [])))),(36,.bool f.valued)] (fun hJ10=>?elA10) (fun a hF=>?flA10)
     case elA10 =>
      rcases tf (((aI .eql (ea.v.v.k) (0)) && (aI .eql (ea.v.v.n) (0))) && (bJ .eql ea.v.v.t [])) with hg10 | hg10
      ·refine az hF O O O O O (aB hg10) ae (fun a hF=>?_)
       refine az hF O O O O O (aB hg10) ae (fun a hF=>?_)
       refine az hF O O O O O (aB hg10) ae (fun a hF=>?_)
       refine az hF O O O O O (aB hg10) ae (fun a hF=>?_)
       refine aJ hF O O O O (ak hg7) ae _ (bu hg10 rfl rfl rfl) (fun a hF=>?_)
       exact hJ10 _ ((hF.keep [55,0,1,2,3,4,6,7,5,33,36] (F':=[(55,_),(0,_),(1,_),(2,_),(3,_),(4,_),(6,_),(7,_),(5,_),(33,_),(36,_)]) O).bool (by rw [hg10]; rfl))
      ·refine aJ hF O O O O (ak hg10) ae _ (yf 3 O ND O mf O) (fun a hF=>?_)
       refine aJ hF O O O O (ak hg10) ae _ (aU O hA11.q O 0 O O mi) (fun a hF=>?_)
       refine aJ hF O O O O (ak hg10) ae _ (aT O Nk O O) (fun a hF=>?_)
       refine aJ hF O O O O (ak hg10) ae _ (aF O O O O O) (fun a hF=>?_)
       refine aJ hF O O O O (ak hg7) ae _ (bF hg10 rfl rfl rfl) (fun a hF=>?_)
       exact hJ10 _ ((hF.keep [55,0,1,2,3,4,6,7,5,33,36] (F':=[(55,_),(0,_),(1,_),(2,_),(3,_),(4,_),(6,_),(7,_),(5,_),(33,_),(36,_)]) O).bool (by rw [hg10]; rfl))
     refine aJ hF O O O O (ak hg6) ae _ (bu hg7 rfl rfl rfl) (fun a hF=>?_)
     exact hJ7 _ ((hF.keep [56,0,1,2,3,4,6,7,5,33] (F':=[(56,_),(0,_),(1,_),(2,_),(3,_),(4,_),(6,_),(7,_),(5,_),(33,_)]) O).bool (by rw [hg7]; rfl))
    ·refine az hF O O O O O (aB hg7) ae (fun a hF=>?_)
     refine az hF O O O O O (aB hg7) ae (fun a hF=>?_)
     refine az hF O O O O O (aB hg7) ae (fun a hF=>?_)
     refine az hF O O O O O (aB hg7) ae (fun a hF=>?_)
     refine bD hF O O O O O ae (fun a hF=>?_)
     refine bD hF O O O O O ae (fun a hF=>?_)
     refine bD hF O O O O O ae (fun a hF=>?_)
     refine az hF O O O O O (aB hg7) ae (fun a hF=>?_)
     refine az hF O O O O O (aB hg7) ae (fun a hF=>?_)
     refine bD hF O O O O O ae (fun a hF=>?_)
     refine bD hF O O O O O ae (fun a hF=>?_)
     refine bD hF O O O O O ae (fun a hF=>?_)
     refine az hF O O O O O (aB hg7) ae (fun a hF=>?_)
     refine az hF O O O O O (aB hg7) ae (fun a hF=>?_)
     refine bD hF O O O O O ae (fun a hF=>?_)
     refine bD hF O O O O O ae (fun a hF=>?_)
     refine bD hF O O O O O ae (fun a hF=>?_)
     refine bD hF O O O O O ae (fun a hF=>?_)
     refine az hF O O O O O (aB hg7) ae (fun a hF=>?_)
     refine aJ hF O O O O (ak hg6) ae _ (bF hg7 rfl rfl rfl) (fun a hF=>?_)
     exact hJ7 _ ((hF.keep [56,0,1,2,3,4,6,7,5,33] (F':=[(56,_),(0,_),(1,_),(2,_),(3,_),(4,_),(6,_),(7,_),(5,_),(33,_)]) O).bool (by rw [hg7]; rfl))
   refine vR hF<|vV O (bF hg6 rfl rfl rfl) fun a hF=>?_
   exact hJ6 _ ((hF.keep [57,0,1,2,3,4,6,7,5] (F':=[(57,_),(0,_),(1,_),(2,_),(3,_),(4,_),(6,_),(7,_),(5,_)]) O).bool (by rw [hg6]; rfl))
 refine vR hF<|vX O fun a hF=>?_
 refine bK (l2:=?lA11) hF [(67,.bool ((((((f.typed) || (bJ .eql ea.typ [])) && ((f.cased) || (bJ .eql ea.cas []))) && ((f.named) || (bJ .eql ea.nam []))) && ((f.valued) || ((((aI .eql (ea.v.v.k) (0)) && (aI .eql (ea.v.v.n) (0))) && (bJ .eql ea.v.v.t [])) && (aI .eql (ea.v.v.s.length) (0))))) && ((f.args) || (aI .eql (ea.args.length) (0))))),(0,.agg (ea.cells).toArray),(1,.agg ([.bool f.typed,.bool f.cased,.bool f.named,.bool f.valued,.bool f.args,.bool f.source]).toArray),(2,.pointer (some ⟨b1,0,none⟩)),(3,.pointer (some ⟨b4,0,none⟩)),(4,.bool false),(6,.pointer (some ⟨b1,6,none⟩)),(7,.agg ([.int .i64 ea.v.v.k,.int .i64 ea.v.v.n,aj ea.v.v.t,.slice ea.v.sA ea.v.v.s.length ea.v.sC]).toArray),(5,.pointer (some ⟨b7,0,none⟩))] (fun hJ11=>?elA11) (fun a hF=>?flA11)
 case elA11 =>
  rcases tf (((((f.typed) || (bJ .eql ea.typ [])) && ((f.cased) || (bJ .eql ea.cas []))) && ((f.named) || (bJ .eql ea.nam []))) && ((f.valued) || ((((aI .eql (ea.v.v.k) (0)) && (aI .eql (ea.v.v.n) (0))) && (bJ .eql ea.v.v.t [])) && (aI .eql (ea.v.v.s.length) (0))))) with hg11 | hg11
  ·refine az hF O O O O O (aB hg11) ae (fun a hF=>?_)
   refine az hF O O O O O (aB hg11) ae (fun a hF=>?_)
   refine az hF O O O O O (aB hg11) ae (fun a hF=>?_)
   refine bD hF O O O O O ae (fun a hF=>?_)
   refine bD hF O O O O O ae (fun a hF=>?_)
   refine bD hF O O O O O ae (fun a hF=>?_)
   refine bD hF O O O O O ae (fun a hF=>?_)
   refine az hF O O O O O (aB hg11) ae (fun a hF=>?_)
   refine vR hF<|vV O (bu hg11 rfl rfl rfl) fun a hF=>?_
   exact hJ11 _ ((hF.keep [67,0,1,2,3,4,6,7,5] (F':=[(67,_),(0,_),(1,_),(2,_),(3,_),(4,_),(6,_),(7,_),(5,_)]) O).bool (by rw [hg11]; rfl))
  ·refine aJ hF O O O O (ak hg11) ae _ (yf 4 O NF O kL O) (fun a hF=>?_)
   refine aJ hF O O O O (ak hg11) ae _ (aU O hA11.q O 1 O O kQ) (fun a hF=>?_)
   refine aJ hF O O O O (ak hg11) ae _ (aV O O) (fun a hF=>?_)
   refine bK (l2:=?lA12) hF [(66,.bool ((f.args) || (aI .eql (ea.args.length) (0)))),(0,.agg (ea.cells).toArray),(1,.agg ([.bool f.typed,.bool f.cased,.bool f.named,.bool f.valued,.bool f.args,.bool f.source]).toArray),(2,.pointer (some ⟨b1,0,none⟩)),(3,.pointer (some ⟨b4,0,none⟩)),(4,.bool false),(6,.pointer (some ⟨b1,6,none⟩)),(7,.agg ([.int .i64 ea.v.v.k,.int .i64 ea.v.v.n,aj ea.v.v.t,.slice ea.v.sA ea.v.v.s.length ea.v.sC]).toArray),(5,.pointer (some ⟨b7,0,none⟩)),(58,.bool (((((f.typed) || (bJ .eql ea.typ [])) && ((f.cased) || (bJ .eql ea.cas []))) && ((f.named) || (bJ .eql ea.nam []))) && ((f.valued) || ((((aI .eql (ea.v.v.k) (0)) && (aI .eql (ea.v.v.n) (0))) && (bJ .eql ea.v.v.t [])) && (aI .eql (ea.v.v.s.length) (0))))))] (fun hJ12=>?elA12) (fun a hF=>?flA12)
   case elA12 =>
    rcases tf (f.args) with hg12 | hg12
    ·refine aJ hF O O O O (ak hg12) ae _ (yf 10 rfl NE O uF O) (fun a hF=>?_)
     refine aJ hF O O O O (ak hg12) ae _ (aU O hA11.q O 2 O O uY) (fun a hF=>?_)
     refine aJ hF O O O O (ak hg12) ae _ (aT O NG O O) (fun a hF=>?_)
     refine aJ hF O O O O (ak hg12) ae _ (aF O O O O O) (fun a hF=>?_)
     refine aJ hF O O O O (ak hg11) ae _ (bu hg12 rfl rfl rfl) (fun a hF=>?_)
     exact hJ12 _ ((hF.keep [66,0,1,2,3,4,6,7,5,58] (F':=[(66,_),(0,_),(1,_),(2,_),(3,_),(4,_),(6,_),(7,_),(5,_),(58,_)]) O).bool (by rw [hg12]; rfl))
    ·refine az hF O O O O O (aB hg12) ae (fun a hF=>?_)
     refine az hF O O O O O (aB hg12) ae (fun a hF=>?_)
     refine az hF O O O O O (aB hg12) ae (fun a hF=>?_)
     refine az hF O O O O O (aB hg12) ae (fun a hF=>?_)
     refine aJ hF O O O O (ak hg11) ae _ (bF hg12 rfl rfl rfl) (fun a hF=>?_)
     exact hJ12 _ ((hF.keep [66,0,1,2,3,4,6,7,5,58] (F':=[(66,_),(0,_),(1,_),(2,_),(3,_),(4,_),(6,_),(7,_),(5,_),(58,_)]) O).bool (by rw [hg12]; rfl))
   refine vR hF<|vV O (bF hg11 rfl rfl rfl) fun a hF=>?_
   exact hJ11 _ ((hF.keep [67,0,1,2,3,4,6,7,5] (F':=[(67,_),(0,_),(1,_),(2,_),(3,_),(4,_),(6,_),(7,_),(5,_)]) O).bool (by rw [hg11]; rfl))
 refine vR hF<|vX O fun a hF=>?_
 refine bK (l2:=?lA13) hF [(77,.bool (((((((f.typed) || (bJ .eql ea.typ [])) && ((f.cased) || (bJ .eql ea.cas []))) && ((f.named) || (bJ .eql ea.nam []))) && ((f.valued) || ((((aI .eql (ea.v.v.k) (0)) && (aI .eql (ea.v.v.n) (0))) && (bJ .eql ea.v.v.t [])) && (aI .eql (ea.v.v.s.length) (0))))) && ((f.args) || (aI .eql (ea.args.length) (0)))) && ((f.source) || (aI .eql (ea.src.length) (0))))),(0,.agg (ea.cells).toArray),(1,.agg ([.bool f.typed,.bool f.cased,.bool f.named,.bool f.valued,.bool f.args,.bool f.source]).toArray),(2,.pointer (some ⟨b1,0,none⟩)),(4,.bool false),(6,.pointer (some ⟨b1,6,none⟩)),(7,.agg ([.int .i64 ea.v.v.k,.int .i64 ea.v.v.n,aj ea.v.v.t,.slice ea.v.sA ea.v.v.s.length ea.v.sC]).toArray),(5,.pointer (some ⟨b7,0,none⟩))] (fun hJ13=>?elA13) (fun a hF=>?flA13)
 case elA13 =>
  rcases tf ((((((f.typed) || (bJ .eql ea.typ [])) && ((f.cased) || (bJ .eql ea.cas []))) && ((f.named) || (bJ .eql ea.nam []))) && ((f.valued) || ((((aI .eql (ea.v.v.k) (0)) && (aI .eql (ea.v.v.n) (0))) && (bJ .eql ea.v.v.t [])) && (aI .eql (ea.v.v.s.length) (0))))) && ((f.args) || (aI .eql (ea.args.length) (0)))) with hg13 | hg13
  ·refine az hF O O O O O (aB hg13) ae (fun a hF=>?_)
   refine az hF O O O O O (aB hg13) ae (fun a hF=>?_)
   refine az hF O O O O O (aB hg13) ae (fun a hF=>?_)
   refine bD hF O O O O O ae (fun a hF=>?_)
   refine bD hF O O O O O ae (fun a hF=>?_)
   refine bD hF O O O O O ae (fun a hF=>?_)
   refine bD hF O O O O O ae (fun a hF=>?_)
   refine az hF O O O O O (aB hg13) ae (fun a hF=>?_)
   refine vR hF<|vV O (bu hg13 rfl rfl rfl) fun a hF=>?_
   exact hJ13 _ ((hF.keep [77,0,1,2,4,6,7,5] (F':=[(77,_),(0,_),(1,_),(2,_),(4,_),(6,_),(7,_),(5,_)]) O).bool (by rw [hg13]; rfl))
  ·refine aJ hF O O O O (ak hg13) ae _ (yf 5 O NF O kL O) (fun a hF=>?_)
   refine aJ hF O O O O (ak hg13) ae _ (aU O hA11.q O 1 O O kQ) (fun a hF=>?_)
   refine aJ hF O O O O (ak hg13) ae _ (aV O O) (fun a hF=>?_)
   refine bK (l2:=?lA14) hF [(76,.bool ((f.source) || (aI .eql (ea.src.length) (0)))),(0,.agg (ea.cells).toArray),(1,.agg ([.bool f.typed,.bool f.cased,.bool f.named,.bool f.valued,.bool f.args,.bool f.source]).toArray),(2,.pointer (some ⟨b1,0,none⟩)),(4,.bool false),(6,.pointer (some ⟨b1,6,none⟩)),(7,.agg ([.int .i64 ea.v.v.k,.int .i64 ea.v.v.n,aj ea.v.v.t,.slice ea.v.sA ea.v.v.s.length ea.v.sC]).toArray),(5,.pointer (some ⟨b7,0,none⟩)),(68,.bool ((((((f.typed) || (bJ .eql ea.typ [])) && ((f.cased) || (bJ .eql ea.cas []))) && ((f.named) || (bJ .eql ea.nam []))) && ((f.valued) || ((((aI .eql (ea.v.v.k) (0)) && (aI .eql (ea.v.v.n) (0))) && (bJ .eql ea.v.v.t [])) && (aI .eql (ea.v.v.s.length) (0))))) && ((f.args) || (aI .eql (ea.args.length) (0)))))] (fun hJ14=>?elA14) (fun a hF=>?flA14)
   case elA14 =>
    rcases tf (f.source) with hg14 | hg14
    ·refine aJ hF O O O O (ak hg14) ae _ (yf 11 rfl NE O dP O) (fun a hF=>?_)
     refine aJ hF O O O O (ak hg14) ae _ (aU O hA11.q O 2 O O jr) (fun a hF=>?_)
     refine aJ hF O O O O (ak hg14) ae _ (aT O Nq O O) (fun a hF=>?_)
     refine aJ hF O O O O (ak hg14) ae _ (aF O O O O O) (fun a hF=>?_)
     refine aJ hF O O O O (ak hg13) ae _ (bu hg14 rfl rfl rfl) (fun a hF=>?_)
     exact hJ14 _ ((hF.keep [76,0,1,2,4,6,7,5,68] (F':=[(76,_),(0,_),(1,_),(2,_),(4,_),(6,_),(7,_),(5,_),(68,_)]) O).bool (by rw [hg14]; rfl))
    ·refine az hF O O O O O (aB hg14) ae (fun a hF=>?_)
     refine az hF O O O O O (aB hg14) ae (fun a hF=>?_)
     refine az hF O O O O O (aB hg14) ae (fun a hF=>?_)
     refine az hF O O O O O (aB hg14) ae (fun a hF=>?_)
     refine aJ hF O O O O (ak hg13) ae _ (bF hg14 rfl rfl rfl) (fun a hF=>?_)
     exact hJ14 _ ((hF.keep [76,0,1,2,4,6,7,5,68] (F':=[(76,_),(0,_),(1,_),(2,_),(4,_),(6,_),(7,_),(5,_),(68,_)]) O).bool (by rw [hg14]; rfl))
   refine vR hF<|vV O (bF hg13 rfl rfl rfl) fun a hF=>?_
   exact hJ13 _ ((hF.keep [77,0,1,2,4,6,7,5] (F':=[(77,_),(0,_),(1,_),(2,_),(4,_),(6,_),(7,_),(5,_)]) O).bool (by rw [hg13]; rfl))
 refine vR hF<|vX O<|vE hK3 fun a hF=>?_
 apply wp_ret
 refine aO hF Tryz.results135 O ?_
 have hA12:Hp w0 (R) w10:=hpS 3 [] [0,1,2] hA11 rfl
 exact ⟨by rw [DN],hA12⟩
theorem lY (l:List VA):(mM l).length=l.length*4:=by
 unfold mM
 induction l with
 | nil=>rfl
 | cons a l ih=>rw [List.map_cons,List.flatten_cons,List.length_append,ih]; show 4+l.length*4=(l.length+1)*4; omega
theorem Gw (l:List VA):∀ v∈mM l,v.oneCell'=true:=fun v hv=>by
 obtain ⟨W,h1,h2⟩:=List.mem_flatten.1 hv
 obtain ⟨a,_,rfl⟩:=List.mem_map.1 h1
 simp only [List.mem_cons,List.not_mem_nil,or_false] at h2
 rcases h2 with rfl | rfl | rfl | rfl <;> rfl
theorem zC (a:VA) (w:World):(Instr.buildSlice 26 1 #[(0,.agg a.cells.toArray)]).run Tryz.prog w= .ok (.slice (some ⟨w.heap.size,0,none⟩) 1 1) (w.alloc (.cells a.cells.toArray 25)):=af
theorem rP:gV Tryz.prog 25 4 56:=iC (z:= .agg ([.int .i64 0,.int .i64 0,aj [],.slice none 0 0]:List Value).toArray) af af
theorem zM {a b:Bool} (h:(a && !b)=true):a=true∧b=false:=by cases a <;> cases b <;> simp_all
theorem Ep {a b c d e f:Bool} (h1:(a && !b)=false) (h2:(c && !d)=false) (h3:(e && !f)=false):¬ ((a=true∧b=false)∨(c=true∧d=false)∨(e=true∧f=false)):=by
 cases a <;> cases b <;> cases c <;> cases d <;> cases e <;> cases f <;> simp_all
theorem Kz {n:Nat} (h:aI .gtr (n:Int) 16=false):n≤16:=by simp [aI] at h; omega
theorem jW {n:Nat} (h:aI .neq (n:Int) 0=true):¬ n=0:=by simp [aI] at h; exact h
theorem oV {n:Nat} (h:aI .neq (n:Int) 0=false):n=0:=by simp [aI] at h; exact h
theorem Lh {ea:EA} {f:Fld} (h0:(!((dJ ea.ev f)))=true):dw ea.ev f=8:=by
 unfold dw
 exact if_pos (by simpa using h0)
theorem yT {ea:EA} {f:Fld} (h0:(!((dJ ea.ev f)))=false) (hn:((f.cased=true∧dS ea.cas 64=false)∨(f.typed=true∧bY ea.typ=false)∨(f.named=true∧bY ea.nam=false))):dw ea.ev f=34:=by
 unfold dw
 refine Eq.trans (if_neg (by simpa using h0)) ?_
 exact if_pos hn
theorem Lm {ea:EA} {f:Fld} (h0:(!((dJ ea.ev f)))=false) (hn:¬ ((f.cased=true∧dS ea.cas 64=false)∨(f.typed=true∧bY ea.typ=false)∨(f.named=true∧bY ea.nam=false))) (h4:((aI .lss ea.num 0) || (aI .geq ea.num 1099511627776))=true):dw ea.ev f=5:=by
 unfold dw
 refine Eq.trans (if_neg (by simpa using h0)) ?_
 refine Eq.trans (if_neg hn) ?_
 exact if_pos (by simp [aI] at h4; show ea.num<0∨_≤ea.num; omega)
theorem Hy {ea:EA} {f:Fld} (h0:(!((dJ ea.ev f)))=false) (hn:¬ ((f.cased=true∧dS ea.cas 64=false)∨(f.typed=true∧bY ea.typ=false)∨(f.named=true∧bY ea.nam=false))) (h4:((aI .lss ea.num 0) || (aI .geq ea.num 1099511627776))=false) (h5:((aI .lss ea.clk 0) || (aI .gtr ea.clk 4611686018427387904))=true):dw ea.ev f=132:=by
 unfold dw
 refine Eq.trans (if_neg (by simpa using h0)) ?_
 refine Eq.trans (if_neg hn) ?_
 refine Eq.trans (if_neg (by simp [aI] at h4; show ¬ (ea.num<0∨_≤ea.num); omega)) ?_
 exact if_pos (by simp [aI] at h5; show ea.clk<0∨_<ea.clk; omega)
theorem Lj {ea:EA} {f:Fld} (h0:(!((dJ ea.ev f)))=false) (hn:¬ ((f.cased=true∧dS ea.cas 64=false)∨(f.typed=true∧bY ea.typ=false)∨(f.named=true∧bY ea.nam=false))) (h4:((aI .lss ea.num 0) || (aI .geq ea.num 1099511627776))=false) (h5:((aI .lss ea.clk 0) || (aI .gtr ea.clk 4611686018427387904))=false) (h6:(aI .gtr ((ea.args.length:Nat):Int) 16)=true):dw ea.ev f=7:=by
 unfold dw
 refine Eq.trans (if_neg (by simpa using h0)) ?_
 refine Eq.trans (if_neg hn) ?_
 refine Eq.trans (if_neg (by simp [aI] at h4; show ¬ (ea.num<0∨_≤ea.num); omega)) ?_
 refine Eq.trans (if_neg (by simp [aI] at h5; show ¬ (ea.clk<0∨_<ea.clk); omega)) ?_
 exact if_pos (by simp [aI] at h6; show 16<(ea.args.map VA.v).length; rw [List.length_map]; omega)
theorem Le {ea:EA} {f:Fld} (h0:(!((dJ ea.ev f)))=false) (hn:¬ ((f.cased=true∧dS ea.cas 64=false)∨(f.typed=true∧bY ea.typ=false)∨(f.named=true∧bY ea.nam=false))) (h4:((aI .lss ea.num 0) || (aI .geq ea.num 1099511627776))=false) (h5:((aI .lss ea.clk 0) || (aI .gtr ea.clk 4611686018427387904))=false) (h6:(aI .gtr ((ea.args.length:Nat):Int) 16)=false) {k:Nat} (hf:dU (ea.v.v::ea.args.map VA.v)=k) (hk:¬ k=0):dw ea.ev f=k:=by
 unfold dw
 refine Eq.trans (if_neg (by simpa using h0)) ?_
 refine Eq.trans (if_neg hn) ?_
 refine Eq.trans (if_neg (by simp [aI] at h4; show ¬ (ea.num<0∨_≤ea.num); omega)) ?_
 refine Eq.trans (if_neg (by simp [aI] at h5; show ¬ (ea.clk<0∨_<ea.clk); omega)) ?_
 refine Eq.trans (if_neg (by simp [aI] at h6; show ¬ 16<(ea.args.map VA.v).length; rw [List.length_map]; omega)) ?_
 refine Eq.trans (if_neg (show ¬ dU (ea.v.v::ea.args.map VA.v)=0 from fun hh=>hk (hf.symm.trans hh))) ?_
 exact hf
theorem Ll {ea:EA} {f:Fld} (h0:(!((dJ ea.ev f)))=false) (hn:¬ ((f.cased=true∧dS ea.cas 64=false)∨(f.typed=true∧bY ea.typ=false)∨(f.named=true∧bY ea.nam=false))) (h4:((aI .lss ea.num 0) || (aI .geq ea.num 1099511627776))=false) (h5:((aI .lss ea.clk 0) || (aI .gtr ea.clk 4611686018427387904))=false) (h6:(aI .gtr ((ea.args.length:Nat):Int) 16)=false) (hf:dU (ea.v.v::ea.args.map VA.v)=0) (h7:(aI .gtr ((ea.src.length:Nat):Int) 60000)=true):dw ea.ev f=6:=by
 unfold dw
 refine Eq.trans (if_neg (by simpa using h0)) ?_
 refine Eq.trans (if_neg hn) ?_
 refine Eq.trans (if_neg (by simp [aI] at h4; show ¬ (ea.num<0∨_≤ea.num); omega)) ?_
 refine Eq.trans (if_neg (by simp [aI] at h5; show ¬ (ea.clk<0∨_<ea.clk); omega)) ?_
 refine Eq.trans (if_neg (by simp [aI] at h6; show ¬ 16<(ea.args.map VA.v).length; rw [List.length_map]; omega)) ?_
 refine Eq.trans (if_pos hf) ?_
 exact if_pos (by simp [aI] at h7; show 60000<ea.src.length; omega)
theorem JJ {ea:EA} {f:Fld} (h0:(!((dJ ea.ev f)))=false) (hn:¬ ((f.cased=true∧dS ea.cas 64=false)∨(f.typed=true∧bY ea.typ=false)∨(f.named=true∧bY ea.nam=false))) (h4:((aI .lss ea.num 0) || (aI .geq ea.num 1099511627776))=false) (h5:((aI .lss ea.clk 0) || (aI .gtr ea.clk 4611686018427387904))=false) (h6:(aI .gtr ((ea.args.length:Nat):Int) 16)=false) (hf:dU (ea.v.v::ea.args.map VA.v)=0) (h7:(aI .gtr ((ea.src.length:Nat):Int) 60000)=false):dw ea.ev f=0:=by
 unfold dw
 refine Eq.trans (if_neg (by simpa using h0)) ?_
 refine Eq.trans (if_neg hn) ?_
 refine Eq.trans (if_neg (by simp [aI] at h4; show ¬ (ea.num<0∨_≤ea.num); omega)) ?_
 refine Eq.trans (if_neg (by simp [aI] at h5; show ¬ (ea.clk<0∨_<ea.clk); omega)) ?_
 refine Eq.trans (if_neg (by simp [aI] at h6; show ¬ 16<(ea.args.map VA.v).length; rw [List.length_map]; omega)) ?_
 refine Eq.trans (if_pos hf) ?_
 exact if_neg (by simp [aI] at h7; show ¬ 60000<ea.src.length; omega)
set_option maxRecDepth 100000 in
set_option maxHeartbeats 2000000 in
theorem zx {w0:World} {R:List Seg} {G:List Seg} (ea:EA) (f:Fld) (w:World) (hT:mO w0) (hV:ea.Ok w0 G) (hG:G⊆R) (hA:Hp w0 R w):Calls Tryz.prog 73 #[.agg ea.cells.toArray,.agg f.cells.toArray] w fun e w'=>e= .returned (.int .i64 (dw ea.ev f:Nat))∧Hp w0 R w':=by
 have he32:ea.eff.length=32:=hV.i.2.2.2.2.2
 have hn:=hV.n
 have hsn:=hV.sn
 have hvn:=hV.v.n
 refine aP Tryz.func73 O Tryz.ntmps73 ai (fun a hF=>?_)
 refine wp_seq_k fun K1 hK1=>wp_region_lit ?_
 refine ax O (fun K hK=>ed (cs:=ea.cells) hF O ae rfl hA O (fun b1 w2 a hb1 hF hA3=>hK _ _ ?_))
 refine ax O (fun K hK=>ed (cs:=[.bool f.typed,.bool f.cased,.bool f.named,.bool f.valued,.bool f.args,.bool f.source]) hF O ae rfl hA3 O (fun b4 w5 a hb4 hF hA6=>hK _ _ ?_))
 refine vR hF<|vX O<|vE hK1<|wQ fun K2 hK2=>wBk<|wT fun K3 hK3=>vV O (cZ (new:=[.int .i64 ea.op,.int .i64 ea.num,.int .i64 ea.clk,aj ea.typ,aj ea.cas,aj ea.nam,.int .i64 ea.v.v.k,.int .i64 ea.v.v.n,aj ea.v.v.t,.slice ea.v.sA ea.v.v.s.length ea.v.sC,.slice ea.aA ea.args.length ea.aC,.slice ea.bA ea.src.length ea.bC]++dc ea.eff) rfl hA6.q O 1 O Hg (by rw [List.length_append,aW,he32]; exact Nat.le_of_ble_eq_true rfl) (by rw [List.drop_zero]; exact Ny (by rw [List.length_append,aW,he32]; exact Nat.le_of_ble_eq_true rfl))) fun a hF=>?_
 refine vR hF<|vV O (cZ (new:=[.bool f.typed,.bool f.cased,.bool f.named,.bool f.valued,.bool f.args,.bool f.source]) O hA6.q O 0 O jF ai rfl) fun a hF=>?_
 refine ax O (fun K hK=>ay hF O ae Gg rfl rfl ?_)
 with_reducible refine (EW ea f _ hV (List.Subset.trans hG (bM (bM (dR)))) hA6).mono ?_
 rintro e' w7 ⟨rfl,hA8⟩
 refine ⟨_,rfl,fun a hF=>hK _ _ ?_⟩
 replace hA8:Hp w0 ([row b4 129 [.bool f.typed,.bool f.cased,.bool f.named,.bool f.valued,.bool f.args,.bool f.source]]::[row b1 31 ([.int .i64 ea.op,.int .i64 ea.num,.int .i64 ea.clk,aj ea.typ,aj ea.cas,aj ea.nam,.int .i64 ea.v.v.k,.int .i64 ea.v.v.n,aj ea.v.v.t,.slice ea.v.sA ea.v.v.s.length ea.v.sC,.slice ea.aA ea.args.length ea.aC,.slice ea.bA ea.src.length ea.bC]++dc ea.eff)]::R) w7:=hA8
 refine vR hF<|vV O (dm O O O)<|vX O<|vE hK3 fun a hF=>?_
 rcases tf (!(dJ ea.ev f)) with h0 | h0
 ·refine au hF O h0 ?_
  apply wp_seq_k; intro K4 hK4
  refine wS hF fun K5 hK5=>vV O (yf 1 O NF O kL O)<|vV O (aU O hA8.q O 0 O O kQ)<|vX O fun a hF=>?_
  refine bK (l2:=?lA1) hF [(21,.bool ((f.cased) && (!(dS ea.cas 64)))),(0,.agg (ea.cells).toArray),(1,.agg ([.bool f.typed,.bool f.cased,.bool f.named,.bool f.valued,.bool f.args,.bool f.source]).toArray),(2,.pointer (some ⟨b1,0,none⟩)),(3,.pointer (some ⟨b4,0,none⟩)),(4,.int .i64 0),(9,.agg ([.int .i64 ea.op,.int .i64 ea.num,.int .i64 ea.clk,aj ea.typ,aj ea.cas,aj ea.nam,.int .i64 ea.v.v.k,.int .i64 ea.v.v.n,aj ea.v.v.t,.slice ea.v.sA ea.v.v.s.length ea.v.sC,.slice ea.aA ea.args.length ea.aC,.slice ea.bA ea.src.length ea.bC]++dc ea.eff).toArray),(10,.agg ([.bool f.typed,.bool f.cased,.bool f.named,.bool f.valued,.bool f.args,.bool f.source]).toArray),(11,.bool (dJ ea.ev f)),(12,.bool (!(dJ ea.ev f))),(8,.bool (!(dJ ea.ev f)))] (fun hJ1=>?elA1) (fun a hF=>?flA1)
  case elA1 =>
   rcases tf (f.cased) with hg1 | hg1
   ·refine az hF O O O O O (aB hg1) ae (fun a hF=>?_)
    refine az hF O O O O O (aB hg1) ae (fun a hF=>?_)
    refine az hF O O O O O (aB hg1) ae (fun a hF=>?_)
    refine az hF O O O O O (aB hg1) ae (fun a hF=>?_)
    refine vR hF<|vV O (bu hg1 rfl rfl rfl) fun a hF=>?_
    exact hJ1 _ ((hF.keep [21,0,1,2,3,4,9,10,11,12,8] (F':=[(21,_),(0,_),(1,_),(2,_),(3,_),(4,_),(9,_),(10,_),(11,_),(12,_),(8,_)]) O).bool (by rw [hg1]; rfl))
   ·refine aJ hF O O O O (ak hg1) ae _ (yf 4 O NE O uB O) (fun a hF=>?_)
    refine aJ hF O O O O (ak hg1) ae _ (aU O hA8.q O 1 O O uU) (fun a hF=>?_)
    refine gI hF O O O (ak hg1) (fun K hK=>ay hF O ae Gf rfl rfl ?_)
    with_reducible refine (IG ea.cas 64 ae _ hA8).mono ?_
    rintro e' w11 ⟨rfl,rfl⟩
    refine ⟨_,rfl,fun a hF=>hK _ _ ?_⟩
    refine aJ hF O O O O (ak hg1) ae _ (dm O O O) (fun a hF=>?_)
    refine vR hF<|vV O (bF hg1 rfl rfl rfl) fun a hF=>?_
    exact hJ1 _ ((hF.keep [21,0,1,2,3,4,9,10,11,12,8] (F':=[(21,_),(0,_),(1,_),(2,_),(3,_),(4,_),(9,_),(10,_),(11,_),(12,_),(8,_)]) O).bool (by rw [hg1]; rfl))
  refine vR hF<|vX O<|vE hK5 fun a hF=>?_
  rcases tf ((f.cased) && (!(dS ea.cas 64))) with h1 | h1
  ·refine au hF O h1 ?_
   refine wS hF fun K6 hK6=>vV O (yf 0 O NF O kL O)<|vV O (aU O hA8.q O 0 O O kQ)<|vX O fun a hF=>?_
   refine bK (l2:=?lA2) hF [(29,.bool ((f.typed) && (!(bY ea.typ)))),(0,.agg (ea.cells).toArray),(1,.agg ([.bool f.typed,.bool f.cased,.bool f.named,.bool f.valued,.bool f.args,.bool f.source]).toArray),(2,.pointer (some ⟨b1,0,none⟩)),(3,.pointer (some ⟨b4,0,none⟩)),(4,.int .i64 0),(9,.agg ([.int .i64 ea.op,.int .i64 ea.num,.int .i64 ea.clk,aj ea.typ,aj ea.cas,aj ea.nam,.int .i64 ea.v.v.k,.int .i64 ea.v.v.n,aj ea.v.v.t,.slice ea.v.sA ea.v.v.s.length ea.v.sC,.slice ea.aA ea.args.length ea.aC,.slice ea.bA ea.src.length ea.bC]++dc ea.eff).toArray),(10,.agg ([.bool f.typed,.bool f.cased,.bool f.named,.bool f.valued,.bool f.args,.bool f.source]).toArray),(11,.bool (dJ ea.ev f)),(12,.bool (!(dJ ea.ev f))),(8,.bool (!(dJ ea.ev f))),(21,.bool ((f.cased) && (!(dS ea.cas 64)))),(13,.bool ((f.cased) && (!(dS ea.cas 64))))] (fun hJ2=>?elA2) (fun a hF=>?flA2)
   case elA2 =>
    rcases tf (f.typed) with hg2 | hg2
    ·refine az hF O O O O O (aB hg2) ae (fun a hF=>?_)
     refine az hF O O O O O (aB hg2) ae (fun a hF=>?_)
     refine az hF O O O O O (aB hg2) ae (fun a hF=>?_)
     refine az hF O O O O O (aB hg2) ae (fun a hF=>?_)
     refine vR hF<|vV O (bu hg2 rfl rfl rfl) fun a hF=>?_
     exact hJ2 _ ((hF.keep [29,0,1,2,3,4,9,10,11,12,8,21,13] (F':=[(29,_),(0,_),(1,_),(2,_),(3,_),(4,_),(9,_),(10,_),(11,_),(12,_),(8,_),(21,_),(13,_)]) O).bool (by rw [hg2]; rfl))
    ·refine aJ hF O O O O (ak hg2) ae _ (yf 3 O NE O uB O) (fun a hF=>?_)
     refine aJ hF O O O O (ak hg2) ae _ (aU O hA8.q O 1 O O uU) (fun a hF=>?_)
     refine gI hF O O O (ak hg2) (fun K hK=>ay hF O ae AV rfl rfl ?_)
     with_reducible refine (lT ea.typ _ hT hA8).mono ?_
     rintro e' w14 ⟨rfl,rfl⟩
     refine ⟨_,rfl,fun a hF=>hK _ _ ?_⟩
     refine aJ hF O O O O (ak hg2) ae _ (dm O O O) (fun a hF=>?_)
     refine vR hF<|vV O (bF hg2 rfl rfl rfl) fun a hF=>?_
     exact hJ2 _ ((hF.keep [29,0,1,2,3,4,9,10,11,12,8,21,13] (F':=[(29,_),(0,_),(1,_),(2,_),(3,_),(4,_),(9,_),(10,_),(11,_),(12,_),(8,_),(21,_),(13,_)]) O).bool (by rw [hg2]; rfl))
   refine vR hF<|vX O<|vE hK6 fun a hF=>?_
   rcases tf ((f.typed) && (!(bY ea.typ))) with h2 | h2
   ·refine au hF O h2 ?_
    refine wp_region_lit ?_
    refine vR hF<|vV O (yf 2 O NF O kL O)<|vV O (aU O hA8.q O 0 O O kQ)<|vX O fun a hF=>?_
    refine bK (l2:=?lA3) hF [(37,.bool ((f.named) && (!(bY ea.nam)))),(0,.agg (ea.cells).toArray),(1,.agg ([.bool f.typed,.bool f.cased,.bool f.named,.bool f.valued,.bool f.args,.bool f.source]).toArray),(2,.pointer (some ⟨b1,0,none⟩)),(3,.pointer (some ⟨b4,0,none⟩)),(4,.int .i64 0),(9,.agg ([.int .i64 ea.op,.int .i64 ea.num,.int .i64 ea.clk,aj ea.typ,aj ea.cas,aj ea.nam,.int .i64 ea.v.v.k,.int .i64 ea.v.v.n,aj ea.v.v.t,.slice ea.v.sA ea.v.v.s.length ea.v.sC,.slice ea.aA ea.args.length ea.aC,.slice ea.bA ea.src.length ea.bC]++dc ea.eff).toArray),(10,.agg ([.bool f.typed,.bool f.cased,.bool f.named,.bool f.valued,.bool f.args,.bool f.source]).toArray),(11,.bool (dJ ea.ev f)),(12,.bool (!(dJ ea.ev f))),(8,.bool (!(dJ ea.ev f))),(21,.bool ((f.cased) && (!(dS ea.cas 64)))),(13,.bool ((f.typed) && (!(bY ea.typ)))),(29,.bool ((f.typed) && (!(bY ea.typ))))] (fun hJ3=>?elA3) (fun a hF=>?flA3)
    case elA3 =>
     rcases tf (f.named) with hg3 | hg3
     ·refine az hF O O O O O (aB hg3) ae (fun a hF=>?_)
      refine az hF O O O O O (aB hg3) ae (fun a hF=>?_)
      refine az hF O O O O O (aB hg3) ae (fun a hF=>?_)
      refine az hF O O O O O (aB hg3) ae (fun a hF=>?_)
      refine vR hF<|vV O (bu hg3 rfl rfl rfl) fun a hF=>?_
      exact hJ3 _ ((hF.keep [37,0,1,2,3,4,9,10,11,12,8,21,13,29] (F':=[(37,_),(0,_),(1,_),(2,_),(3,_),(4,_),(9,_),(10,_),(11,_),(12,_),(8,_),(21,_),(13,_),(29,_)]) O).bool (by rw [hg3]; rfl))
     ·refine aJ hF O O O O (ak hg3) ae _ (yf 5 O NE O uB O) (fun a hF=>?_)
      refine aJ hF O O O O (ak hg3) ae _ (aU O hA8.q O 1 O O uU) (fun a hF=>?_)
      refine gI hF O O O (ak hg3) (fun K hK=>ay hF O ae AV rfl rfl ?_)
      with_reducible refine (lT ea.nam _ hT hA8).mono ?_
      rintro e' w17 ⟨rfl,rfl⟩
      refine ⟨_,rfl,fun a hF=>hK _ _ ?_⟩
      refine aJ hF O O O O (ak hg3) ae _ (dm O O O) (fun a hF=>?_)
      refine vR hF<|vV O (bF hg3 rfl rfl rfl) fun a hF=>?_
      exact hJ3 _ ((hF.keep [37,0,1,2,3,4,9,10,11,12,8,21,13,29] (F':=[(37,_),(0,_),(1,_),(2,_),(3,_),(4,_),(9,_),(10,_),(11,_),(12,_),(8,_),(21,_),(13,_),(29,_)]) O).bool (by rw [hg3]; rfl))
    refine vR hF<|vX O<|vE hK4 fun a hF=>?_
    rcases tf ((f.named) && (!(bY ea.nam))) with h3 | h3
    ·refine au hF O h3 ?_
     refine wS hF fun K7 hK7=>vV O (yf 1 O NE O gZ O)<|vV O (aU O hA8.q O 1 O O jZ)<|vV O (aF O O O O O)<|vX O fun a hF=>?_
     refine bK (l2:=?lA4) hF [(46,.bool ((aI .lss (ea.num) (0)) || (aI .geq (ea.num) (1099511627776)))),(0,.agg (ea.cells).toArray),(1,.agg ([.bool f.typed,.bool f.cased,.bool f.named,.bool f.valued,.bool f.args,.bool f.source]).toArray),(2,.pointer (some ⟨b1,0,none⟩)),(3,.pointer (some ⟨b4,0,none⟩)),(4,.int .i64 0),(9,.agg ([.int .i64 ea.op,.int .i64 ea.num,.int .i64 ea.clk,aj ea.typ,aj ea.cas,aj ea.nam,.int .i64 ea.v.v.k,.int .i64 ea.v.v.n,aj ea.v.v.t,.slice ea.v.sA ea.v.v.s.length ea.v.sC,.slice ea.aA ea.args.length ea.aC,.slice ea.bA ea.src.length ea.bC]++dc ea.eff).toArray),(10,.agg ([.bool f.typed,.bool f.cased,.bool f.named,.bool f.valued,.bool f.args,.bool f.source]).toArray),(11,.bool (dJ ea.ev f)),(12,.bool (!(dJ ea.ev f))),(8,.bool (!(dJ ea.ev f))),(21,.bool ((f.cased) && (!(dS ea.cas 64)))),(13,.bool ((f.named) && (!(bY ea.nam)))),(29,.bool ((f.typed) && (!(bY ea.typ)))),(37,.bool ((f.named) && (!(bY ea.nam))))] (fun hJ4=>?elA4) (fun a hF=>?flA4)
     case elA4 =>
      rcases tf (aI .lss (ea.num) (0)) with hg4 | hg4
      ·refine aJ hF O O O O (ak hg4) ae _ (yf 1 O NE O gZ O) (fun a hF=>?_)
       refine aJ hF O O O O (ak hg4) ae _ (aU O hA8.q O 1 O O jZ) (fun a hF=>?_)
       refine aJ hF O O O O (ak hg4) ae _ (aF O O O O O) (fun a hF=>?_)
       refine vR hF<|vV O (bu hg4 rfl rfl rfl) fun a hF=>?_
       exact hJ4 _ ((hF.keep [46,0,1,2,3,4,9,10,11,12,8,21,13,29,37] (F':=[(46,_),(0,_),(1,_),(2,_),(3,_),(4,_),(9,_),(10,_),(11,_),(12,_),(8,_),(21,_),(13,_),(29,_),(37,_)]) O).bool (by rw [hg4]; rfl))
      ·refine az hF O O O O O (aB hg4) ae (fun a hF=>?_)
       refine az hF O O O O O (aB hg4) ae (fun a hF=>?_)
       refine az hF O O O O O (aB hg4) ae (fun a hF=>?_)
       refine vR hF<|vV O (bF hg4 rfl rfl rfl) fun a hF=>?_
       exact hJ4 _ ((hF.keep [46,0,1,2,3,4,9,10,11,12,8,21,13,29,37] (F':=[(46,_),(0,_),(1,_),(2,_),(3,_),(4,_),(9,_),(10,_),(11,_),(12,_),(8,_),(21,_),(13,_),(29,_),(37,_)]) O).bool (by rw [hg4]; rfl))
     refine vR hF<|vX O<|vE hK7 fun a hF=>?_
     have hnm:=Ep h1 h2 h3
     rcases tf ((aI .lss (ea.num) (0)) || (aI .geq (ea.num) (1099511627776))) with h4 | h4
     ·refine au hF O h4 ?_
      refine wS hF fun K8 hK8=>vV O (yf 2 O NE O gZ O)<|vV O (aU O hA8.q O 1 O O jZ)<|vV O (aF O O O O O)<|vX O fun a hF=>?_
      refine bK (l2:=?lA5) hF [(55,.bool ((aI .lss (ea.clk) (0)) || (aI .gtr (ea.clk) (4611686018427387904)))),(0,.agg (ea.cells).toArray),(1,.agg ([.bool f.typed,.bool f.cased,.bool f.named,.bool f.valued,.bool f.args,.bool f.source]).toArray),(2,.pointer (some ⟨b1,0,none⟩)),(3,.pointer (some ⟨b4,0,none⟩)),(4,.int .i64 0),(9,.agg ([.int .i64 ea.op,.int .i64 ea.num,.int .i64 ea.clk,aj ea.typ,aj ea.cas,aj ea.nam,.int .i64 ea.v.v.k,.int .i64 ea.v.v.n,aj ea.v.v.t,.slice ea.v.sA ea.v.v.s.length ea.v.sC,.slice ea.aA ea.args.length ea.aC,.slice ea.bA ea.src.length ea.bC]++dc ea.eff).toArray),(10,.agg ([.bool f.typed,.bool f.cased,.bool f.named,.bool f.valued,.bool f.args,.bool f.source]).toArray),(11,.bool (dJ ea.ev f)),(12,.bool (!(dJ ea.ev f))),(8,.bool (!(dJ ea.ev f))),(21,.bool ((f.cased) && (!(dS ea.cas 64)))),(13,.bool ((f.named) && (!(bY ea.nam)))),(29,.bool ((f.typed) && (!(bY ea.typ)))),(37,.bool ((f.named) && (!(bY ea.nam)))),(46,.bool ((aI .lss (ea.num) (0)) || (aI .geq (ea.num) (1099511627776)))),(38,.bool ((aI .lss (ea.num) (0)) || (aI .geq (ea.num) (1099511627776))))] (fun hJ5=>?elA5) (fun a hF=>?flA5)
      case elA5 =>
       rcases tf (aI .lss (ea.clk) (0)) with hg5 | hg5
       ·refine aJ hF O O O O (ak hg5) ae _ (yf 2 O NE O gZ O) (fun a hF=>?_)
        refine aJ hF O O O O (ak hg5) ae _ (aU O hA8.q O 1 O O jZ) (fun a hF=>?_)
        refine aJ hF O O O O (ak hg5) ae _ (aF O O O O O) (fun a hF=>?_)
        refine vR hF<|vV O (bu hg5 rfl rfl rfl) fun a hF=>?_
        exact hJ5 _ ((hF.keep [55,0,1,2,3,4,9,10,11,12,8,21,13,29,37,46,38] (F':=[(55,_),(0,_),(1,_),(2,_),(3,_),(4,_),(9,_),(10,_),(11,_),(12,_),(8,_),(21,_),(13,_),(29,_),(37,_),(46,_),(38,_)]) O).bool (by rw [hg5]; rfl))
       ·refine az hF O O O O O (aB hg5) ae (fun a hF=>?_)
        refine az hF O O O O O (aB hg5) ae (fun a hF=>?_)
        refine az hF O O O O O (aB hg5) ae (fun a hF=>?_)
        refine vR hF<|vV O (bF hg5 rfl rfl rfl) fun a hF=>?_
        exact hJ5 _ ((hF.keep [55,0,1,2,3,4,9,10,11,12,8,21,13,29,37,46,38] (F':=[(55,_),(0,_),(1,_),(2,_),(3,_),(4,_),(9,_),(10,_),(11,_),(12,_),(8,_),(21,_),(13,_),(29,_),(37,_),(46,_),(38,_)]) O).bool (by rw [hg5]; rfl))
      refine vR hF<|vX O<|vE hK8 fun a hF=>?_
      rcases tf ((aI .lss (ea.clk) (0)) || (aI .gtr (ea.clk) (4611686018427387904))) with h5 | h5
      ·refine au hF O h5 ?_
       refine wS hF fun K9 hK9=>vV O (yf 10 rfl NE O uF O)<|vV O (aU O hA8.q O 1 O O uY)<|vV O (aT O NG O O)<|vV O (aF O O O O O)<|vX O<|vE hK9 fun a hF=>?_
       rcases tf (aI .gtr (ea.args.length) (16)) with h6 | h6
       ·refine au hF O h6 ?_
        have hle:=Kz h6
        apply wp_skip
        refine hK2 _ _ ?_
        apply wp_seq_k; intro K10 hK10
        refine wS hF fun K11 hK11=>vV O (yf 6 O NE O nD O)<|vV O (cZ (new:=[.int .i64 ea.v.v.k,.int .i64 ea.v.v.n,aj ea.v.v.t,.slice ea.v.sA ea.v.v.s.length ea.v.sC]) O hA8.q O 1 O Ho (by rw [List.length_append]; exact Nat.le_add_right_of_le ai) rfl) fun a hF=>?_
        refine ax O (fun K hK=>kG (qs := #[(0,.agg ea.v.cells.toArray)]) (cells:=ea.v.cells.toArray) hF O ae rfl hA8 O (zC ea.v) (fun b18 w19 a hb18 hF hA20=>hK _ _ ?_))
        have hZ0:Buf 25 4 [row b18 25 ea.v.cells] (.slice (some ⟨b18,0,none⟩) 1 1) 1 ea.v.cells:=Buf.full rfl ae
        refine vR hF<|vV O (yf 10 rfl NE O uF O)<|vV O (aU O hA20.q O 2 O O uY) fun a hF=>?_
        refine ax O (fun K hK=>cO hF O ae rfl hA20 0 O hZ0 NG rP rfl rfl (Rc.srcC (W:=mM ea.args) (m:=ea.args.length) (size:=4) (R:=[row b18 25 ea.v.cells]::[row b4 129 [.bool f.typed,.bool f.cased,.bool f.named,.bool f.valued,.bool f.args,.bool f.source]]::[row b1 31 ([.int .i64 ea.op,.int .i64 ea.num,.int .i64 ea.clk,aj ea.typ,aj ea.cas,aj ea.nam,.int .i64 ea.v.v.k,.int .i64 ea.v.v.n,aj ea.v.v.t,.slice ea.v.sA ea.v.v.s.length ea.v.sC,.slice ea.aA ea.args.length ea.aC,.slice ea.bA ea.src.length ea.bC]++dc ea.eff)]::R) (hV.rc.mono (List.Subset.trans hG (bM (bM (bM (dR)))))) hA20.q NG ae (lY _) (Gw _)) ag ae (fun vB ZB w21 a hZ hF hA22=>hK _ _ ?_))
        replace hA22:Hp w0 (ZB::[row b4 129 [.bool f.typed,.bool f.cased,.bool f.named,.bool f.valued,.bool f.args,.bool f.source]]::[row b1 31 ([.int .i64 ea.op,.int .i64 ea.num,.int .i64 ea.clk,aj ea.typ,aj ea.cas,aj ea.nam,.int .i64 ea.v.v.k,.int .i64 ea.v.v.n,aj ea.v.v.t,.slice ea.v.sA ea.v.v.s.length ea.v.sC,.slice ea.aA ea.args.length ea.aC,.slice ea.bA ea.src.length ea.bC]++dc ea.eff)]::R) w21:=hA22
        replace hZ:Buf 25 4 ZB vB (ea.v::ea.args).length (mM (ea.v::ea.args)):=by rw [List.length_cons,Nat.add_comm]; exact hZ
        obtain ⟨A1,c1,rfl,hc1,hRc⟩:=hZ.rc (w0:=w0) (R:=[ZB]) (Nu ..)
        obtain ⟨L,hL⟩:∃ L,L=ea.v::ea.args:=⟨_,rfl⟩
        rw [← hL] at hF hRc
        have hLk:∀ a∈L,a.Ok w0 G:=fun a ha=>by
         rw [hL] at ha
         rcases List.mem_cons.1 ha with rfl | ha
         ·exact hV.v
         ·exact hV.args _ ha
        have hLn:L.length≤17:=by rw [hL,List.length_cons]; omega
        refine vR hF<|vV O (aT O NG O O)<|vX O<|vE hK11<|wBk fun a hF=>?_
        refine bH (G:=Nat) (fun i a x=>i≤L.length∧dU (L.map VA.v)=dU ((L.drop i).map VA.v)∧Fr 82 [(68,.int .i64 (i:Int)),(2,.pointer (some ⟨b1,0,none⟩)),(3,.pointer (some ⟨b4,0,none⟩)),(66,.slice A1 L.length c1),(67,.int .i64 L.length)] a∧Hp w0 (ZB::[row b4 129 [.bool f.typed,.bool f.cased,.bool f.named,.bool f.valued,.bool f.args,.bool f.source]]::[row b1 31 ([.int .i64 ea.op,.int .i64 ea.num,.int .i64 ea.clk,aj ea.typ,aj ea.cas,aj ea.nam,.int .i64 ea.v.v.k,.int .i64 ea.v.v.n,aj ea.v.v.t,.slice ea.v.sA ea.v.v.s.length ea.v.sC,.slice ea.aA ea.args.length ea.aC,.slice ea.bA ea.src.length ea.bC]++dc ea.eff)]::R) x) (fun i=>L.length-i) 0 (⟨Nl _,rfl,hF.keep [68,2,3,66,67] rfl,hA22⟩) ?_
        clear hF
        rintro i a w24 ⟨hi,hfr,hF,hA23⟩
        refine wS hF fun K12 hK12=>vV O (aF O O O O O)<|vE hK12<|wQ fun K13 hK13 a hF=>?_
        by_cases hlt:i<L.length
        ·refine aG hF O (dF ag) ?_
         obtain ⟨va,hp⟩:∃ q,L[i]? = some q:=⟨_,List.getElem?_eq_getElem hlt⟩
         obtain ⟨hat,hle4⟩:=Go.Dk.flat_at (z:=4) (Ws:=L.map VA.cells) (V:=va.cells) (i:=i) (fun V hV=>by obtain ⟨u,_,rfl⟩:=List.mem_map.1 hV; rfl) (by rw [List.getElem?_map,hp]; rfl)
         obtain ⟨b,o,hsA,hc⟩:=hRc.ne (i:=i*4) (by have:=lY L; omega)
         rw [hsA] at hF
         rw [List.drop_eq_getElem_cons hlt,List.map_cons,(List.getElem?_eq_some_iff.1 hp).2,dU] at hfr
         have hva:=hLk va (List.mem_of_getElem? hp)
         have hvan:=hva.n
         apply wp_skip
         refine hK13 _ _ ?_
         apply wp_seq_k; intro K14 hK14
         apply wp_block
         refine wS hF fun K15 hK15=>vV O (aY O NG nD O O i rfl hlt rfl)<|vV O (dK (new:=va.cells) rfl (Hq.sub hA23.q (List.cons_subset.2 ⟨((Nu ..)),List.nil_subset _⟩)) O hc (i*4) hle4 rfl hat Ho) fun a hF=>?_
         refine ax O (fun K hK=>dC hF O ae rfl hA23 (zQ) (fun b25 w26 a hb25 hF hA27=>hK _ _ ?_))
         refine ax O (fun K hK=>bG (new:=[.int .i64 va.v.k,.int .i64 va.v.n,aj va.v.t,.slice va.sA va.v.s.length va.sC]) hF O O hA27 O O 0 O O (by simp [Value.oneCell']) nD (fun w28 hA29=>hK _ _ ?_))
         replace hA29:Hp w0 ([row b25 25 [.int .i64 va.v.k,.int .i64 va.v.n,aj va.v.t,.slice va.sA va.v.s.length va.sC]]::ZB::[row b4 129 [.bool f.typed,.bool f.cased,.bool f.named,.bool f.valued,.bool f.args,.bool f.source]]::[row b1 31 ([.int .i64 ea.op,.int .i64 ea.num,.int .i64 ea.clk,aj ea.typ,aj ea.cas,aj ea.nam,.int .i64 ea.v.v.k,.int .i64 ea.v.v.n,aj ea.v.v.t,.slice ea.v.sA ea.v.v.s.length ea.v.sC,.slice ea.aA ea.args.length ea.aC,.slice ea.bA ea.src.length ea.bC]++dc ea.eff)]::R) w28:=hA29
         refine aH<|hK15 _ _ ?_
         refine wS hF fun K16 hK16=>vV O (cZ (new:=[.int .i64 va.v.k,.int .i64 va.v.n,aj va.v.t,.slice va.sA va.v.s.length va.sC]) O hA29.q O 0 O Ho ai rfl) fun a hF=>?_
         refine ax O (fun K hK=>ay hF O ae Gl rfl rfl ?_)
         with_reducible refine (rO va _ hva (List.Subset.trans hG (bM (bM (bM (bM (dR)))))) hA29).mono ?_
         rintro e' w30 ⟨rfl,hA31⟩
         refine ⟨_,rfl,fun a hF=>hK _ _ ?_⟩
         replace hA31:Hp w0 ([row b25 25 [.int .i64 va.v.k,.int .i64 va.v.n,aj va.v.t,.slice va.sA va.v.s.length va.sC]]::ZB::[row b4 129 [.bool f.typed,.bool f.cased,.bool f.named,.bool f.valued,.bool f.args,.bool f.source]]::[row b1 31 ([.int .i64 ea.op,.int .i64 ea.num,.int .i64 ea.clk,aj ea.typ,aj ea.cas,aj ea.nam,.int .i64 ea.v.v.k,.int .i64 ea.v.v.n,aj ea.v.v.t,.slice ea.v.sA ea.v.v.s.length ea.v.sC,.slice ea.aA ea.args.length ea.aC,.slice ea.bA ea.src.length ea.bC]++dc ea.eff)]::R) w30:=hA31
         refine vR hF<|vX O<|vE hK16<|wT fun K17 hK17=>vX O<|vV O (aF O O O O O)<|vE hK17 fun a hF=>?_
         rcases tf (aI .neq (((va.v.right:Nat):Int)) (0)) with hr | hr
         ·refine au hF O hr ?_
          rw [if_pos (oV hr)] at hfr
          rw [← hsA] at hF
          apply wp_skip
          refine hK14 _ _ ?_
          refine wp_region_lit ?_
          refine vR hF<|vV O (bT O O O (Np _ ag))<|vX O fun a hF=>?_
          refine aH ?_
          have hA32:Hp w0 (ZB::[row b4 129 [.bool f.typed,.bool f.cased,.bool f.named,.bool f.valued,.bool f.args,.bool f.source]]::[row b1 31 ([.int .i64 ea.op,.int .i64 ea.num,.int .i64 ea.clk,aj ea.typ,aj ea.cas,aj ea.nam,.int .i64 ea.v.v.k,.int .i64 ea.v.v.n,aj ea.v.v.t,.slice ea.v.sA ea.v.v.s.length ea.v.sC,.slice ea.aA ea.args.length ea.aC,.slice ea.bA ea.src.length ea.bC]++dc ea.eff)]::R) w30:=hpS 4 [1,2,3] [0] hA31 rfl
          exact ⟨i+1,ag,ag,hfr,hF.keep [68,2,3,66,67] rfl,hA32⟩
         ·refine aG hF O hr ?_
          refine wS hF fun K18 hK18=>vX O<|vX O<|vE hK18 fun a hF=>?_
          apply wp_ret
          simp only [Exit.then,Exit.inBlock]
          refine aO hF Tryz.results73 O ?_
          have hA33:Hp w0 (R) w30:=hpS 4 [] [0,1,2,3] hA31 rfl
          exact ⟨by rw [Le h0 hnm h4 h5 h6 (by rw [← List.map_cons,← hL,hfr,if_neg (jW hr)]) (jW hr)],hA33⟩
        ·refine au hF O (dE ag) ?_
         obtain rfl:i=L.length:=by omega
         rw [List.drop_length] at hfr
         apply wp_exit
         refine hK10 _ _ ?_
         apply wp_seq_k; intro K19 hK19
         refine wS hF fun K20 hK20=>vV O (yf 11 rfl NE O dP O)<|vV O (aU O hA23.q O 2 O O jr)<|vV O (aT O Nq O O)<|vV O (aF O O O O O)<|vE hK20 fun a hF=>?_
         rcases tf (aI .gtr (ea.src.length) (60000)) with h7 | h7
         ·refine au hF O h7 ?_
          apply wp_skip
          refine hK19 _ _ ?_
          refine wS hF fun K21 hK21=>vX O<|vE hK21 fun a hF=>?_
          apply wp_ret
          refine aO hF Tryz.results73 O ?_
          have hA34:Hp w0 (R) w24:=hpS 3 [] [0,1,2] hA23 rfl
          exact ⟨by rw [JJ h0 hnm h4 h5 h6 (by rw [← List.map_cons,← hL,hfr]; rfl) h7]; rfl,hA34⟩
         ·refine aG hF O h7 ?_
          refine wS hF fun K22 hK22=>vX O<|vE hK22 fun a hF=>?_
          apply wp_ret
          simp only [Exit.then]
          refine aO hF Tryz.results73 O ?_
          have hA35:Hp w0 (R) w24:=hpS 3 [] [0,1,2] hA23 rfl
          exact ⟨by rw [Ll h0 hnm h4 h5 h6 (by rw [← List.map_cons,← hL,hfr]; rfl) h7]; rfl,hA35⟩
       ·refine aG hF O h6 ?_
        refine wS hF fun K23 hK23=>vX O<|vE hK23 fun a hF=>?_
        apply wp_ret
        simp only [Exit.then,Exit.inBlock]
        refine aO hF Tryz.results73 O ?_
        have hA36:Hp w0 (R) w7:=hpS 2 [] [0,1] hA8 rfl
        exact ⟨by rw [Lj h0 hnm h4 h5 h6]; rfl,hA36⟩
      ·refine aG hF O h5 ?_
       refine wS hF fun K24 hK24=>vX O<|vE hK24 fun a hF=>?_
       apply wp_ret
       simp only [Exit.then,Exit.inBlock]
       refine aO hF Tryz.results73 O ?_
       have hA37:Hp w0 (R) w7:=hpS 2 [] [0,1] hA8 rfl
       exact ⟨by rw [Hy h0 hnm h4 h5]; rfl,hA37⟩
     ·refine aG hF O h4 ?_
      refine wS hF fun K25 hK25=>vX O<|vE hK25 fun a hF=>?_
      apply wp_ret
      simp only [Exit.then,Exit.inBlock]
      refine aO hF Tryz.results73 O ?_
      have hA38:Hp w0 (R) w7:=hpS 2 [] [0,1] hA8 rfl
      exact ⟨by rw [Lm h0 hnm h4]; rfl,hA38⟩
    ·refine aG hF O h3 ?_
     refine wS hF fun K26 hK26=>vX O<|vE hK26 fun a hF=>?_
     apply wp_ret
     simp only [Exit.then,Exit.inBlock]
     refine aO hF Tryz.results73 O ?_
     have hA39:Hp w0 (R) w7:=hpS 2 [] [0,1] hA8 rfl
     exact ⟨by rw [yT h0 (.inr (.inr (zM h3)))]; rfl,hA39⟩
   ·refine aG hF O h2 ?_
    apply wp_skip
    refine hK4 _ _ ?_
    refine aG hF O h2 ?_
    refine wS hF fun K27 hK27=>vX O<|vE hK27 fun a hF=>?_
    apply wp_ret
    simp only [Exit.then,Exit.inBlock]
    refine aO hF Tryz.results73 O ?_
    have hA40:Hp w0 (R) w7:=hpS 2 [] [0,1] hA8 rfl
    exact ⟨by rw [yT h0 (.inr (.inl (zM h2)))]; rfl,hA40⟩
  ·refine aG hF O h1 ?_
   apply wp_skip
   refine hK4 _ _ ?_
   refine aG hF O h1 ?_
   refine wS hF fun K28 hK28=>vX O<|vE hK28 fun a hF=>?_
   apply wp_ret
   simp only [Exit.then,Exit.inBlock]
   refine aO hF Tryz.results73 O ?_
   have hA41:Hp w0 (R) w7:=hpS 2 [] [0,1] hA8 rfl
   exact ⟨by rw [yT h0 (.inl (zM h1))]; rfl,hA41⟩
 ·refine aG hF O h0 ?_
  refine wS hF fun K29 hK29=>vX O<|vE hK29 fun a hF=>?_
  apply wp_ret
  simp only [Exit.then,Exit.inBlock]
  refine aO hF Tryz.results73 O ?_
  have hA42:Hp w0 (R) w7:=hpS 2 [] [0,1] hA8 rfl
  exact ⟨by rw [Lh h0]; rfl,hA42⟩
end Go.Proofs.YtepbmdlgdaedpaaGreatDoor
