/- An event's fields: which there are, whether what is not is zero, what is refused. -/
import Derived.Test.YtepbmdlgdaedpaaGreatDoorEv2
import Derived.Test.YtepbmdlgdaedpaaGreatDoorRx
/- An event's fields: which there are, whether what is not is zero, what is refused. -/
namespace Go.Proofs.YtepbmdlgdaedpaaGreatDoor
open Go.RowKit Go.Dk
theorem jk:bf Tryz.prog 4=true:=af
theorem qG:bf Tryz.prog 26=true:=af
theorem CQ:isRow Tryz.prog 31 44=true:=af
theorem iJ:isRow Tryz.prog 129 6=true:=af
theorem jh:(Tryz.prog.info? 4).map (·.size)=some 1:=af
theorem kM:(Tryz.prog.info? 25).map (·.size)=some 4:=af
theorem ql:(Tryz.prog.info? 26).map (·.size)=some 1:=af
theorem ja:(Tryz.prog.info? 129).map (·.size)=some 6:=af
theorem wP:aO Tryz.prog 87:=⟨_,Tryz.func87,af,af⟩
theorem BG:aO Tryz.prog 101:=⟨_,Tryz.func101,af,af⟩
theorem BD:aO Tryz.prog 135:=⟨_,Tryz.func135,af,af⟩
theorem BC:aO Tryz.prog 136:=⟨_,Tryz.func136,af,af⟩
theorem vN:bY Tryz.prog 25 (.agg ([.int .i64 0,.int .i64 0,.string (⟨#[]⟩),.slice none 0 0]:List Value).toArray):=by unfold bY; kernel_rfl
theorem yN:bY Tryz.prog 129 (.agg ([.bool false,.bool false,.bool false,.bool false,.bool false,.bool false]:List Value).toArray):=by unfold bY; kernel_rfl
theorem GH (w:World):(Instr.build 129 #[(0,.bool true),(5,.bool true)]).run Tryz.prog w= .ok (.agg ([.bool true,.bool false,.bool false,.bool false,.bool false,.bool true]:List Value).toArray) w:=af
theorem GG (w:World):(Instr.build 129 #[(1,.bool true),(0,.bool true)]).run Tryz.prog w= .ok (.agg ([.bool true,.bool true,.bool false,.bool false,.bool false,.bool false]:List Value).toArray) w:=af
theorem Fv (w:World):(Instr.build 129 #[(1,.bool true),(2,.bool true),(3,.bool true)]).run Tryz.prog w= .ok (.agg ([.bool false,.bool true,.bool true,.bool true,.bool false,.bool false]:List Value).toArray) w:=af
theorem Fq (w:World):(Instr.build 129 #[(1,.bool true),(2,.bool true),(4,.bool true)]).run Tryz.prog w= .ok (.agg ([.bool false,.bool true,.bool true,.bool false,.bool true,.bool false]:List Value).toArray) w:=af
theorem fb_ (w:World):(Instr.build 129 #[]).run Tryz.prog w= .ok (.agg ([.bool false,.bool false,.bool false,.bool false,.bool false,.bool false]:List Value).toArray) w:=af
def oO (op:Int):List Value:=if iK op then (dZ op).cells else noFld.cells
theorem Gz {op:Int} (h:op=1):(.returned (.tuple #[.agg (oO op).toArray,.bool (decide (iK op))]):Ending)= .returned (.tuple #[.agg ([.bool true,.bool false,.bool false,.bool false,.bool false,.bool true]:List Value).toArray,.bool true]):=by subst h; rfl
theorem Gy {op:Int} (h:op=2):(.returned (.tuple #[.agg (oO op).toArray,.bool (decide (iK op))]):Ending)= .returned (.tuple #[.agg ([.bool true,.bool true,.bool false,.bool false,.bool false,.bool false]:List Value).toArray,.bool true]):=by subst h; rfl
theorem Gx {op:Int} (h:op=3):(.returned (.tuple #[.agg (oO op).toArray,.bool (decide (iK op))]):Ending)= .returned (.tuple #[.agg ([.bool false,.bool true,.bool true,.bool true,.bool false,.bool false]:List Value).toArray,.bool true]):=by subst h; rfl
theorem Gw {op:Int} (h:op=4):(.returned (.tuple #[.agg (oO op).toArray,.bool (decide (iK op))]):Ending)= .returned (.tuple #[.agg ([.bool false,.bool true,.bool true,.bool false,.bool true,.bool false]:List Value).toArray,.bool true]):=by subst h; rfl
theorem Gv {op:Int} (h:op=5):(.returned (.tuple #[.agg (oO op).toArray,.bool (decide (iK op))]):Ending)= .returned (.tuple #[.agg ([.bool false,.bool false,.bool false,.bool false,.bool false,.bool false]:List Value).toArray,.bool true]):=by subst h; rfl
theorem Gu {op:Int} (h1:¬ op=1) (h2:¬ op=2) (h3:¬ op=3) (h4:¬ op=4) (h5:¬ op=5):(.returned (.tuple #[.agg (oO op).toArray,.bool (decide (iK op))]):Ending)= .returned (.tuple #[.agg ([.bool false,.bool false,.bool false,.bool false,.bool false,.bool false]:List Value).toArray,.bool false]):=by
 have h:¬ iK op:=fun hh=>by unfold iK at hh; omega
 unfold oO
 rw [if_neg h,decide_eq_false h]
 rfl
set_option maxRecDepth 100000 in
set_option maxHeartbeats 2000000 in
theorem pM {w0:World} {R:List Seg} (op:Int) (w:World) (hA:Hp w0 R w):Calls Tryz.prog 72 #[.int .i64 op] w fun e w'=>e= .returned (.tuple #[.agg (oO op).toArray,.bool (decide (iK op))])∧Hp w0 R w':=by
 refine aP Tryz.func72 O Tryz.ntmps72 ai (fun a hF=>?_)
 refine wp_seq_k fun K1 hK1=>wp_region_lit ?_
 refine aB O (fun K hK=>cu hF O ae rfl hA (yN) (fun b1 w2 a hb1 hF hA3=>hK _ _ ?_))
 refine vR hF<|vX O<|vE hK1<|wQ fun K2 hK2=>wT fun K3 hK3=>vX O<|vE hK3<|wBk<|wT fun K4 hK4=>vV O (ax O O O O O)<|vX O<|vE hK4 fun a hF=>?_
 by_cases hk1:op=1
 ·refine az hF O (dJ ag) ?_
  refine wS hF fun K5 hK5=>vV O (fB (qs := #[(0,.bool true),(5,.bool true)]) O O GH) fun a hF=>?_
  refine aB O (fun K hK=>aY (new:=[.bool true,.bool false,.bool false,.bool false,.bool false,.bool true]) hF O O hA3 O O 0 O O (by simp [Value.oneCell']) ja (fun w4 hA5=>hK _ _ ?_))
  replace hA5:Hp w0 ([row b1 129 [.bool true,.bool false,.bool false,.bool false,.bool false,.bool true]]::R) w4:=hA5
  refine vR hF<|vX O<|vE hK5 fun a hF=>?_
  apply wp_ret
  simp only [Exit.then,Exit.inBlock]
  refine dH hF Tryz.results72 hA5.q O O 0 O iJ ?_
  have hA6:Hp w0 (R) w4:=hpS 1 [] [0] hA5 rfl
  exact ⟨by rw [Gz hk1],hA6⟩
 ·by_cases hk2:op=2
  ·refine au hF O (bg ag) ?_
   refine wS hF fun K6 hK6=>vV O (ax O O O O O)<|vX O<|vE hK6 fun a hF=>?_
   refine az hF O (dJ ag) ?_
   refine wS hF fun K7 hK7=>vV O (fB (qs := #[(1,.bool true),(0,.bool true)]) O O GG) fun a hF=>?_
   refine aB O (fun K hK=>aY (new:=[.bool true,.bool true,.bool false,.bool false,.bool false,.bool false]) hF O O hA3 O O 0 O O (by simp [Value.oneCell']) ja (fun w7 hA8=>hK _ _ ?_))
   replace hA8:Hp w0 ([row b1 129 [.bool true,.bool true,.bool false,.bool false,.bool false,.bool false]]::R) w7:=hA8
   refine vR hF<|vX O<|vE hK7 fun a hF=>?_
   apply wp_ret
   simp only [Exit.then,Exit.inBlock]
   refine dH hF Tryz.results72 hA8.q O O 0 O iJ ?_
   have hA9:Hp w0 (R) w7:=hpS 1 [] [0] hA8 rfl
   exact ⟨by rw [Gy hk2],hA9⟩
  ·by_cases hk3:op=3
   ·refine au hF O (bg ag) ?_
    refine wS hF fun K8 hK8=>vV O (ax O O O O O)<|vX O<|vE hK8 fun a hF=>?_
    refine au hF O (bg ag) ?_
    refine wS hF fun K9 hK9=>vV O (ax O O O O O)<|vX O<|vE hK9 fun a hF=>?_
    refine az hF O (dJ ag) ?_
    refine wS hF fun K10 hK10=>vV O (fB (qs := #[(1,.bool true),(2,.bool true),(3,.bool true)]) O O Fv) fun a hF=>?_
    refine aB O (fun K hK=>aY (new:=[.bool false,.bool true,.bool true,.bool true,.bool false,.bool false]) hF O O hA3 O O 0 O O (by simp [Value.oneCell']) ja (fun w10 hA11=>hK _ _ ?_))
    replace hA11:Hp w0 ([row b1 129 [.bool false,.bool true,.bool true,.bool true,.bool false,.bool false]]::R) w10:=hA11
    refine vR hF<|vX O<|vE hK10 fun a hF=>?_
    apply wp_ret
    simp only [Exit.then,Exit.inBlock]
    refine dH hF Tryz.results72 hA11.q O O 0 O iJ ?_
    have hA12:Hp w0 (R) w10:=hpS 1 [] [0] hA11 rfl
    exact ⟨by rw [Gx hk3],hA12⟩
   ·by_cases hk4:op=4
    ·refine au hF O (bg ag) ?_
     refine wS hF fun K11 hK11=>vV O (ax O O O O O)<|vX O<|vE hK11 fun a hF=>?_
     refine au hF O (bg ag) ?_
     refine wS hF fun K12 hK12=>vV O (ax O O O O O)<|vX O<|vE hK12 fun a hF=>?_
     refine au hF O (bg ag) ?_
     refine wS hF fun K13 hK13=>vV O (ax O O O O O)<|vX O<|vE hK13 fun a hF=>?_
     refine az hF O (dJ ag) ?_
     refine wS hF fun K14 hK14=>vV O (fB (qs := #[(1,.bool true),(2,.bool true),(4,.bool true)]) O O Fq) fun a hF=>?_
     refine aB O (fun K hK=>aY (new:=[.bool false,.bool true,.bool true,.bool false,.bool true,.bool false]) hF O O hA3 O O 0 O O (by simp [Value.oneCell']) ja (fun w13 hA14=>hK _ _ ?_))
     replace hA14:Hp w0 ([row b1 129 [.bool false,.bool true,.bool true,.bool false,.bool true,.bool false]]::R) w13:=hA14
     refine vR hF<|vX O<|vE hK14 fun a hF=>?_
     apply wp_ret
     simp only [Exit.then,Exit.inBlock]
     refine dH hF Tryz.results72 hA14.q O O 0 O iJ ?_
     have hA15:Hp w0 (R) w13:=hpS 1 [] [0] hA14 rfl
     exact ⟨by rw [Gw hk4],hA15⟩
    ·by_cases hk5:op=5
     ·refine au hF O (bg ag) ?_
      refine wS hF fun K15 hK15=>vV O (ax O O O O O)<|vX O<|vE hK15 fun a hF=>?_
      refine au hF O (bg ag) ?_
      refine wS hF fun K16 hK16=>vV O (ax O O O O O)<|vX O<|vE hK16 fun a hF=>?_
      refine au hF O (bg ag) ?_
      refine wS hF fun K17 hK17=>vV O (ax O O O O O)<|vX O<|vE hK17 fun a hF=>?_
      refine au hF O (bg ag) ?_
      refine wS hF fun K18 hK18=>vV O (ax O O O O O)<|vX O<|vE hK18 fun a hF=>?_
      refine az hF O (dJ ag) ?_
      refine wS hF fun K19 hK19=>vV O (dV O fb_) fun a hF=>?_
      refine aB O (fun K hK=>aY (new:=[.bool false,.bool false,.bool false,.bool false,.bool false,.bool false]) hF O O hA3 O O 0 O O (by simp [Value.oneCell']) ja (fun w16 hA17=>hK _ _ ?_))
      replace hA17:Hp w0 ([row b1 129 [.bool false,.bool false,.bool false,.bool false,.bool false,.bool false]]::R) w16:=hA17
      refine vR hF<|vX O<|vE hK19 fun a hF=>?_
      apply wp_ret
      simp only [Exit.then,Exit.inBlock]
      refine dH hF Tryz.results72 hA17.q O O 0 O iJ ?_
      have hA18:Hp w0 (R) w16:=hpS 1 [] [0] hA17 rfl
      exact ⟨by rw [Gv hk5],hA18⟩
     ·refine au hF O (bg ag) ?_
      refine wS hF fun K20 hK20=>vV O (ax O O O O O)<|vX O<|vE hK20 fun a hF=>?_
      refine au hF O (bg ag) ?_
      refine wS hF fun K21 hK21=>vV O (ax O O O O O)<|vX O<|vE hK21 fun a hF=>?_
      refine au hF O (bg ag) ?_
      refine wS hF fun K22 hK22=>vV O (ax O O O O O)<|vX O<|vE hK22 fun a hF=>?_
      refine au hF O (bg ag) ?_
      refine wS hF fun K23 hK23=>vV O (ax O O O O O)<|vX O<|vE hK23 fun a hF=>?_
      refine au hF O (bg ag) ?_
      apply wp_skip
      refine hK2 _ _ ?_
      refine wS hF fun K24 hK24=>vV O (dV O fb_) fun a hF=>?_
      refine aB O (fun K hK=>aY (new:=[.bool false,.bool false,.bool false,.bool false,.bool false,.bool false]) hF O O hA3 O O 0 O O (by simp [Value.oneCell']) ja (fun w19 hA20=>hK _ _ ?_))
      replace hA20:Hp w0 ([row b1 129 [.bool false,.bool false,.bool false,.bool false,.bool false,.bool false]]::R) w19:=hA20
      refine vR hF<|vX O<|vE hK24 fun a hF=>?_
      apply wp_ret
      refine dH hF Tryz.results72 hA20.q O O 0 O iJ ?_
      have hA21:Hp w0 (R) w19:=hpS 1 [] [0] hA20 rfl
      exact ⟨by rw [Gu hk1 hk2 hk3 hk4 hk5],hA21⟩
structure EA where
 op:Int
 num:Int
 clk:Int
 typ:List UInt8
 cas:List UInt8
 nam:List UInt8
 v:VA
 args:List VA
 aA:Option Addr
 aC:Nat
 src:List UInt8
 bA:Option Addr
 bC:Nat
 eff:List UInt8
abbrev EA.cells (e:EA):List Value:=[.int .i64 e.op,.int .i64 e.num,.int .i64 e.clk,ak e.typ,ak e.cas,ak e.nam,.int .i64 e.v.v.k,.int .i64 e.v.v.n,ak e.v.v.t,.slice e.v.sA e.v.v.s.length e.v.sC,.slice e.aA e.args.length e.aC,.slice e.bA e.src.length e.bC]++dc e.eff
def EA.ev (e:EA):Ev:=⟨e.op,e.num,e.clk,e.typ,e.cas,e.nam,e.v.v,e.args.map VA.v,e.src,e.eff⟩
abbrev mD (l:List VA):List Value:=(l.map VA.cells).flatten
structure EA.Ok (w0:World) (G:List Seg) (e:EA):Prop where
 v:e.v.Ok w0 G
 args:∀ a∈e.args,a.Ok w0 G
 rc:Rc w0 G e.aA (mD e.args)
 n:e.args.length≤9223372036854775807
 src:Rd w0 G e.bA e.src
 sn:e.src.length≤9223372036854775807
 i:e.ev.In
theorem mG (l:List UInt8):bn .eql l []=decide (l=[]):=by
 unfold bn
 rw [Bool.eq_iff_iff]
 simp
theorem len_nil {α:Type} (l:List α):aI .eql ((l.length:Nat):Int) 0=decide (l=[]):=by
 unfold aI
 rw [Bool.eq_iff_iff]
 simp
theorem wH (z:Int):aI .eql z 0=decide (z=0):=by
 unfold aI
 rw [Bool.eq_iff_iff]
 simp
theorem zi (ea:EA) (f:Fld):(((((((f.typed) || (bn .eql ea.typ [])) && ((f.cased) || (bn .eql ea.cas []))) && ((f.named) || (bn .eql ea.nam []))) && ((f.valued) || ((((aI .eql (ea.v.v.k) (0)) && (aI .eql (ea.v.v.n) (0))) && (bn .eql ea.v.v.t [])) && (aI .eql (ea.v.v.s.length) (0))))) && ((f.args) || (aI .eql (ea.args.length) (0)))) && ((f.source) || (aI .eql (ea.src.length) (0))))=bZ ea.ev f:=by
 rw [mG,mG,mG,mG,wH,wH,len_nil,len_nil,len_nil]
 unfold bZ Val.nothing EA.ev
 simp only [Bool.decide_and,List.map_eq_nil_iff,Bool.and_assoc]
set_option maxRecDepth 100000 in
set_option maxHeartbeats 2000000 in
theorem Ar {w0:World} {R:List Seg} {G:List Seg} (ea:EA) (f:Fld) (w:World) (hV:ea.Ok w0 G) (hG:G⊆R) (hA:Hp w0 R w):Calls Tryz.prog 135 #[.agg ea.cells.toArray,.agg f.cells.toArray] w fun e w'=>e= .returned (.bool (bZ ea.ev f))∧Hp w0 R w':=by
 have he32:ea.eff.length=32:=hV.i.2.2.2.2.2
 have hn:=hV.n
 have hsn:=hV.sn
 have hvn:=hV.v.n
 refine aP Tryz.func135 O Tryz.ntmps135 ai (fun a hF=>?_)
 refine wp_seq_k fun K1 hK1=>wp_region_lit ?_
 refine aB O (fun K hK=>eU (cs:=ea.cells) hF O ae rfl hA O (fun b1 w2 a hb1 hF hA3=>hK _ _ ?_))
 refine aB O (fun K hK=>eU (cs:=[.bool f.typed,.bool f.cased,.bool f.named,.bool f.valued,.bool f.args,.bool f.source]) hF O ae rfl hA3 O (fun b4 w5 a hb4 hF hA6=>hK _ _ ?_))
 refine vR hF<|vX O<|vE hK1<|wT fun K2 hK2=>vV O (yf 6 O Ic O kM O)<|vV O (bW (new:=[.int .i64 ea.v.v.k,.int .i64 ea.v.v.n,ak ea.v.v.t,.slice ea.v.sA ea.v.v.s.length ea.v.sC]) O hA6.q O 1 O CU (by rw [List.length_append]; exact Nat.le_add_right_of_le ai) rfl) fun a hF=>?_
 refine aB O (fun K hK=>cu hF O ae rfl hA6 (vN) (fun b7 w8 a hb7 hF hA9=>hK _ _ ?_))
 refine aB O (fun K hK=>aY (new:=[.int .i64 ea.v.v.k,.int .i64 ea.v.v.n,ak ea.v.v.t,.slice ea.v.sA ea.v.v.s.length ea.v.sC]) hF O O hA9 O O 0 O O (by simp [Value.oneCell']) kM (fun w10 hA11=>hK _ _ ?_))
 replace hA11:Hp w0 ([row b7 25 [.int .i64 ea.v.v.k,.int .i64 ea.v.v.n,ak ea.v.v.t,.slice ea.v.sA ea.v.v.s.length ea.v.sC]]::[row b4 129 [.bool f.typed,.bool f.cased,.bool f.named,.bool f.valued,.bool f.args,.bool f.source]]::[row b1 31 ([.int .i64 ea.op,.int .i64 ea.num,.int .i64 ea.clk,ak ea.typ,ak ea.cas,ak ea.nam,.int .i64 ea.v.v.k,.int .i64 ea.v.v.n,ak ea.v.v.t,.slice ea.v.sA ea.v.v.s.length ea.v.sC,.slice ea.aA ea.args.length ea.aC,.slice ea.bA ea.src.length ea.bC]++dc ea.eff)]::R) w10:=hA11
 refine aN<|hK2 _ _ ?_
 refine wS hF fun K3 hK3=>vV O (yf 0 O Ie O jh O)<|vV O (aX O hA11.q O 1 O O jk)<|vX O fun a hF=>?_
 refine bF (l2:=?lA1) hF [(14,.bool ((f.typed) || (bn .eql ea.typ []))),(0,.agg (ea.cells).toArray),(1,.agg ([.bool f.typed,.bool f.cased,.bool f.named,.bool f.valued,.bool f.args,.bool f.source]).toArray),(2,.pointer (some ⟨b1,0,none⟩)),(3,.pointer (some ⟨b4,0,none⟩)),(4,.bool false),(6,.pointer (some ⟨b1,6,none⟩)),(7,.agg ([.int .i64 ea.v.v.k,.int .i64 ea.v.v.n,ak ea.v.v.t,.slice ea.v.sA ea.v.v.s.length ea.v.sC]).toArray),(5,.pointer (some ⟨b7,0,none⟩))] (fun hJ1=>?elA1) (fun a hF=>?flA1)
 case elA1 =>
  rcases tf (f.typed) with hg1 | hg1
  ·refine aH hF O O O O (aj hg1) ae _ (yf 3 O Ic O qi O) (fun a hF=>?_)
   refine aH hF O O O O (aj hg1) ae _ (aX O hA11.q O 2 O O qE) (fun a hF=>?_)
   refine aH hF O O O O (aj hg1) ae _ (fP O O O O O) (fun a hF=>?_)
   refine vR hF<|vV O (aV hg1 rfl rfl rfl) fun a hF=>?_
   exact hJ1 _ ((hF.keep [14,0,1,2,3,4,6,7,5] (F':=[(14,_),(0,_),(1,_),(2,_),(3,_),(4,_),(6,_),(7,_),(5,_)]) O).bool (by rw [hg1]; rfl))
  ·refine aF hF O O O O O (aG hg1) ae (fun a hF=>?_)
   refine aF hF O O O O O (aG hg1) ae (fun a hF=>?_)
   refine aF hF O O O O O (aG hg1) ae (fun a hF=>?_)
   refine vR hF<|vV O (aZ hg1 rfl rfl rfl) fun a hF=>?_
   exact hJ1 _ ((hF.keep [14,0,1,2,3,4,6,7,5] (F':=[(14,_),(0,_),(1,_),(2,_),(3,_),(4,_),(6,_),(7,_),(5,_)]) O).bool (by rw [hg1]; rfl))
 refine vR hF<|vX O fun a hF=>?_
 refine bF (l2:=?lA2) hF [(23,.bool (((f.typed) || (bn .eql ea.typ [])) && ((f.cased) || (bn .eql ea.cas [])))),(0,.agg (ea.cells).toArray),(1,.agg ([.bool f.typed,.bool f.cased,.bool f.named,.bool f.valued,.bool f.args,.bool f.source]).toArray),(2,.pointer (some ⟨b1,0,none⟩)),(3,.pointer (some ⟨b4,0,none⟩)),(4,.bool false),(6,.pointer (some ⟨b1,6,none⟩)),(7,.agg ([.int .i64 ea.v.v.k,.int .i64 ea.v.v.n,ak ea.v.v.t,.slice ea.v.sA ea.v.v.s.length ea.v.sC]).toArray),(5,.pointer (some ⟨b7,0,none⟩))] (fun hJ2=>?elA2) (fun a hF=>?flA2)
 case elA2 =>
  rcases tf ((f.typed) || (bn .eql ea.typ [])) with hg2 | hg2
  ·refine aF hF O O O O O (aG hg2) ae (fun a hF=>?_)
   refine aF hF O O O O O (aG hg2) ae (fun a hF=>?_)
   refine aF hF O O O O O (aG hg2) ae (fun a hF=>?_)
   refine aW hF O O O O O ae (fun a hF=>?_)
   refine aW hF O O O O O ae (fun a hF=>?_)
   refine aW hF O O O O O ae (fun a hF=>?_)
   refine aF hF O O O O O (aG hg2) ae (fun a hF=>?_)
   refine vR hF<|vV O (aV hg2 rfl rfl rfl) fun a hF=>?_
   exact hJ2 _ ((hF.keep [23,0,1,2,3,4,6,7,5] (F':=[(23,_),(0,_),(1,_),(2,_),(3,_),(4,_),(6,_),(7,_),(5,_)]) O).bool (by rw [hg2]; rfl))
  ·refine aH hF O O O O (aj hg2) ae _ (yf 1 O Ie O jh O) (fun a hF=>?_)
   refine aH hF O O O O (aj hg2) ae _ (aX O hA11.q O 1 O O jk) (fun a hF=>?_)
   refine aH hF O O O O (aj hg2) ae _ (aS O O) (fun a hF=>?_)
   refine bF (l2:=?lA3) hF [(22,.bool ((f.cased) || (bn .eql ea.cas []))),(0,.agg (ea.cells).toArray),(1,.agg ([.bool f.typed,.bool f.cased,.bool f.named,.bool f.valued,.bool f.args,.bool f.source]).toArray),(2,.pointer (some ⟨b1,0,none⟩)),(3,.pointer (some ⟨b4,0,none⟩)),(4,.bool false),(6,.pointer (some ⟨b1,6,none⟩)),(7,.agg ([.int .i64 ea.v.v.k,.int .i64 ea.v.v.n,ak ea.v.v.t,.slice ea.v.sA ea.v.v.s.length ea.v.sC]).toArray),(5,.pointer (some ⟨b7,0,none⟩)),(15,.bool ((f.typed) || (bn .eql ea.typ [])))] (fun hJ3=>?elA3) (fun a hF=>?flA3)
   case elA3 =>
    rcases tf (f.cased) with hg3 | hg3
    ·refine aH hF O O O O (aj hg3) ae _ (yf 4 O Ic O qi O) (fun a hF=>?_)
     refine aH hF O O O O (aj hg3) ae _ (aX O hA11.q O 2 O O qE) (fun a hF=>?_)
     refine aH hF O O O O (aj hg3) ae _ (fP O O O O O) (fun a hF=>?_)
     refine aH hF O O O O (aj hg2) ae _ (aV hg3 rfl rfl rfl) (fun a hF=>?_)
     exact hJ3 _ ((hF.keep [22,0,1,2,3,4,6,7,5,15] (F':=[(22,_),(0,_),(1,_),(2,_),(3,_),(4,_),(6,_),(7,_),(5,_),(15,_)]) O).bool (by rw [hg3]; rfl))
    ·refine aF hF O O O O O (aG hg3) ae (fun a hF=>?_)
     refine aF hF O O O O O (aG hg3) ae (fun a hF=>?_)
     refine aF hF O O O O O (aG hg3) ae (fun a hF=>?_)
     refine aH hF O O O O (aj hg2) ae _ (aZ hg3 rfl rfl rfl) (fun a hF=>?_)
     exact hJ3 _ ((hF.keep [22,0,1,2,3,4,6,7,5,15] (F':=[(22,_),(0,_),(1,_),(2,_),(3,_),(4,_),(6,_),(7,_),(5,_),(15,_)]) O).bool (by rw [hg3]; rfl))
   refine vR hF<|vV O (aZ hg2 rfl rfl rfl) fun a hF=>?_
   exact hJ2 _ ((hF.keep [23,0,1,2,3,4,6,7,5] (F':=[(23,_),(0,_),(1,_),(2,_),(3,_),(4,_),(6,_),(7,_),(5,_)]) O).bool (by rw [hg2]; rfl))
 refine vR hF<|vX O fun a hF=>?_
 refine bF (l2:=?lA4) hF [(32,.bool ((((f.typed) || (bn .eql ea.typ [])) && ((f.cased) || (bn .eql ea.cas []))) && ((f.named) || (bn .eql ea.nam [])))),(0,.agg (ea.cells).toArray),(1,.agg ([.bool f.typed,.bool f.cased,.bool f.named,.bool f.valued,.bool f.args,.bool f.source]).toArray),(2,.pointer (some ⟨b1,0,none⟩)),(3,.pointer (some ⟨b4,0,none⟩)),(4,.bool false),(6,.pointer (some ⟨b1,6,none⟩)),(7,.agg ([.int .i64 ea.v.v.k,.int .i64 ea.v.v.n,ak ea.v.v.t,.slice ea.v.sA ea.v.v.s.length ea.v.sC]).toArray),(5,.pointer (some ⟨b7,0,none⟩))] (fun hJ4=>?elA4) (fun a hF=>?flA4)
 case elA4 =>
  rcases tf (((f.typed) || (bn .eql ea.typ [])) && ((f.cased) || (bn .eql ea.cas []))) with hg4 | hg4
  ·refine aF hF O O O O O (aG hg4) ae (fun a hF=>?_)
   refine aF hF O O O O O (aG hg4) ae (fun a hF=>?_)
   refine aF hF O O O O O (aG hg4) ae (fun a hF=>?_)
   refine aW hF O O O O O ae (fun a hF=>?_)
   refine aW hF O O O O O ae (fun a hF=>?_)
   refine aW hF O O O O O ae (fun a hF=>?_)
   refine aF hF O O O O O (aG hg4) ae (fun a hF=>?_)
   refine vR hF<|vV O (aV hg4 rfl rfl rfl) fun a hF=>?_
   exact hJ4 _ ((hF.keep [32,0,1,2,3,4,6,7,5] (F':=[(32,_),(0,_),(1,_),(2,_),(3,_),(4,_),(6,_),(7,_),(5,_)]) O).bool (by rw [hg4]; rfl))
  ·refine aH hF O O O O (aj hg4) ae _ (yf 2 O Ie O jh O) (fun a hF=>?_)
   refine aH hF O O O O (aj hg4) ae _ (aX O hA11.q O 1 O O jk) (fun a hF=>?_)
   refine aH hF O O O O (aj hg4) ae _ (aS O O) (fun a hF=>?_)
   refine bF (l2:=?lA5) hF [(31,.bool ((f.named) || (bn .eql ea.nam []))),(0,.agg (ea.cells).toArray),(1,.agg ([.bool f.typed,.bool f.cased,.bool f.named,.bool f.valued,.bool f.args,.bool f.source]).toArray),(2,.pointer (some ⟨b1,0,none⟩)),(3,.pointer (some ⟨b4,0,none⟩)),(4,.bool false),(6,.pointer (some ⟨b1,6,none⟩)),(7,.agg ([.int .i64 ea.v.v.k,.int .i64 ea.v.v.n,ak ea.v.v.t,.slice ea.v.sA ea.v.v.s.length ea.v.sC]).toArray),(5,.pointer (some ⟨b7,0,none⟩)),(24,.bool (((f.typed) || (bn .eql ea.typ [])) && ((f.cased) || (bn .eql ea.cas []))))] (fun hJ5=>?elA5) (fun a hF=>?flA5)
   case elA5 =>
    rcases tf (f.named) with hg5 | hg5
    ·refine aH hF O O O O (aj hg5) ae _ (yf 5 O Ic O qi O) (fun a hF=>?_)
     refine aH hF O O O O (aj hg5) ae _ (aX O hA11.q O 2 O O qE) (fun a hF=>?_)
     refine aH hF O O O O (aj hg5) ae _ (fP O O O O O) (fun a hF=>?_)
     refine aH hF O O O O (aj hg4) ae _ (aV hg5 rfl rfl rfl) (fun a hF=>?_)
     exact hJ5 _ ((hF.keep [31,0,1,2,3,4,6,7,5,24] (F':=[(31,_),(0,_),(1,_),(2,_),(3,_),(4,_),(6,_),(7,_),(5,_),(24,_)]) O).bool (by rw [hg5]; rfl))
    ·refine aF hF O O O O O (aG hg5) ae (fun a hF=>?_)
     refine aF hF O O O O O (aG hg5) ae (fun a hF=>?_)
     refine aF hF O O O O O (aG hg5) ae (fun a hF=>?_)
     refine aH hF O O O O (aj hg4) ae _ (aZ hg5 rfl rfl rfl) (fun a hF=>?_)
     exact hJ5 _ ((hF.keep [31,0,1,2,3,4,6,7,5,24] (F':=[(31,_),(0,_),(1,_),(2,_),(3,_),(4,_),(6,_),(7,_),(5,_),(24,_)]) O).bool (by rw [hg5]; rfl))
   refine vR hF<|vV O (aZ hg4 rfl rfl rfl) fun a hF=>?_
   exact hJ4 _ ((hF.keep [32,0,1,2,3,4,6,7,5] (F':=[(32,_),(0,_),(1,_),(2,_),(3,_),(4,_),(6,_),(7,_),(5,_)]) O).bool (by rw [hg4]; rfl))
 refine vR hF<|vX O fun a hF=>?_
 refine bF (l2:=?lA6) hF [(57,.bool (((((f.typed) || (bn .eql ea.typ [])) && ((f.cased) || (bn .eql ea.cas []))) && ((f.named) || (bn .eql ea.nam []))) && ((f.valued) || ((((aI .eql (ea.v.v.k) (0)) && (aI .eql (ea.v.v.n) (0))) && (bn .eql ea.v.v.t [])) && (aI .eql (ea.v.v.s.length) (0)))))),(0,.agg (ea.cells).toArray),(1,.agg ([.bool f.typed,.bool f.cased,.bool f.named,.bool f.valued,.bool f.args,.bool f.source]).toArray),(2,.pointer (some ⟨b1,0,none⟩)),(3,.pointer (some ⟨b4,0,none⟩)),(4,.bool false),(6,.pointer (some ⟨b1,6,none⟩)),(7,.agg ([.int .i64 ea.v.v.k,.int .i64 ea.v.v.n,ak ea.v.v.t,.slice ea.v.sA ea.v.v.s.length ea.v.sC]).toArray),(5,.pointer (some ⟨b7,0,none⟩))] (fun hJ6=>?elA6) (fun a hF=>?flA6)
 case elA6 =>
  rcases tf ((((f.typed) || (bn .eql ea.typ [])) && ((f.cased) || (bn .eql ea.cas []))) && ((f.named) || (bn .eql ea.nam []))) with hg6 | hg6
  ·refine aF hF O O O O O (aG hg6) ae (fun a hF=>?_)
   refine aF hF O O O O O (aG hg6) ae (fun a hF=>?_)
   refine aF hF O O O O O (aG hg6) ae (fun a hF=>?_)
   refine aW hF O O O O O ae (fun a hF=>?_)
   refine aW hF O O O O O ae (fun a hF=>?_)
   refine aW hF O O O O O ae (fun a hF=>?_)
   refine aW hF O O O O O ae (fun a hF=>?_)
   refine aW hF O O O O O ae (fun a hF=>?_)
   refine aW hF O O O O O ae (fun a hF=>?_)
   refine aW hF O O O O O ae (fun a hF=>?_)
   refine aW hF O O O O O ae (fun a hF=>?_)
   refine aW hF O O O O O ae (fun a hF=>?_)
   refine aW hF O O O O O ae (fun a hF=>?_)
   refine aW hF O O O O O ae (fun a hF=>?_)
   refine aW hF O O O O O ae (fun a hF=>?_)
   refine aW hF O O O O O ae (fun a hF=>?_)
   refine aW hF O O O O O ae (fun a hF=>?_)
   refine aW hF O O O O O ae (fun a hF=>?_)
   refine aW hF O O O O O ae (fun a hF=>?_)
   refine aW hF O O O O O ae (fun a hF=>?_)
   refine aW hF O O O O O ae (fun a hF=>?_)
   refine aW hF O O O O O ae (fun a hF=>?_)
   refine aF hF O O O O O (aG hg6) ae (fun a hF=>?_)
   refine vR hF<|vV O (aV hg6 rfl rfl rfl) fun a hF=>?_
   exact hJ6 _ ((hF.keep [57,0,1,2,3,4,6,7,5] (F':=[(57,_),(0,_),(1,_),(2,_),(3,_),(4,_),(6,_),(7,_),(5,_)]) O).bool (by rw [hg6]; rfl))
  ·refine aH hF O O O O (aj hg6) ae _ (yf 3 O Ie O jh O) (fun a hF=>?_)
   refine aH hF O O O O (aj hg6) ae _ (aX O hA11.q O 1 O O jk) (fun a hF=>?_)
   refine aH hF O O O O (aj hg6) ae _ (aS O O) (fun a hF=>?_)
   refine bF (l2:=?lA7) hF [(56,.bool ((f.valued) || ((((aI .eql (ea.v.v.k) (0)) && (aI .eql (ea.v.v.n) (0))) && (bn .eql ea.v.v.t [])) && (aI .eql (ea.v.v.s.length) (0))))),(0,.agg (ea.cells).toArray),(1,.agg ([.bool f.typed,.bool f.cased,.bool f.named,.bool f.valued,.bool f.args,.bool f.source]).toArray),(2,.pointer (some ⟨b1,0,none⟩)),(3,.pointer (some ⟨b4,0,none⟩)),(4,.bool false),(6,.pointer (some ⟨b1,6,none⟩)),(7,.agg ([.int .i64 ea.v.v.k,.int .i64 ea.v.v.n,ak ea.v.v.t,.slice ea.v.sA ea.v.v.s.length ea.v.sC]).toArray),(5,.pointer (some ⟨b7,0,none⟩)),(33,.bool ((((f.typed) || (bn .eql ea.typ [])) && ((f.cased) || (bn .eql ea.cas []))) && ((f.named) || (bn .eql ea.nam []))))] (fun hJ7=>?elA7) (fun a hF=>?flA7)
   case elA7 =>
    rcases tf (f.valued) with hg7 | hg7
    ·refine aH hF O O O O (aj hg7) ae _ (yf 0 O H9 O gV O) (fun a hF=>?_)
     refine aH hF O O O O (aj hg7) ae _ (aX O hA11.q O 0 O O gW) (fun a hF=>?_)
     refine aH hF O O O O (aj hg7) ae _ (ax O O O O O) (fun a hF=>?_)
     refine aH hF O O O O (aj hg7) ae _ (aS O O) (fun a hF=>?_)
     refine bF (l2:=?lA8) hF [(44,.bool ((aI .eql (ea.v.v.k) (0)) && (aI .eql (ea.v.v.n) (0)))),(0,.agg (ea.cells).toArray),(1,.agg ([.bool f.typed,.bool f.cased,.bool f.named,.bool f.valued,.bool f.args,.bool f.source]).toArray),(2,.pointer (some ⟨b1,0,none⟩)),(3,.pointer (some ⟨b4,0,none⟩)),(4,.bool false),(6,.pointer (some ⟨b1,6,none⟩)),(7,.agg ([.int .i64 ea.v.v.k,.int .i64 ea.v.v.n,ak ea.v.v.t,.slice ea.v.sA ea.v.v.s.length ea.v.sC]).toArray),(5,.pointer (some ⟨b7,0,none⟩)),(33,.bool ((((f.typed) || (bn .eql ea.typ [])) && ((f.cased) || (bn .eql ea.cas []))) && ((f.named) || (bn .eql ea.nam [])))),(36,.bool f.valued)] (fun hJ8=>?elA8) (fun a hF=>?flA8)
     case elA8 =>
      rcases tf (aI .eql (ea.v.v.k) (0)) with hg8 | hg8
      ·refine aF hF O O O O O (aG hg8) ae (fun a hF=>?_)
       refine aF hF O O O O O (aG hg8) ae (fun a hF=>?_)
       refine aF hF O O O O O (aG hg8) ae (fun a hF=>?_)
       refine aH hF O O O O (aj hg7) ae _ (aV hg8 rfl rfl rfl) (fun a hF=>?_)
       exact hJ8 _ ((hF.keep [44,0,1,2,3,4,6,7,5,33,36] (F':=[(44,_),(0,_),(1,_),(2,_),(3,_),(4,_),(6,_),(7,_),(5,_),(33,_),(36,_)]) O).bool (by rw [hg8]; rfl))
      ·refine aH hF O O O O (aj hg8) ae _ (yf 1 O H9 O gu O) (fun a hF=>?_)
       refine aH hF O O O O (aj hg8) ae _ (aX O hA11.q O 0 O O jK) (fun a hF=>?_)
       refine aH hF O O O O (aj hg8) ae _ (ax O O O O O) (fun a hF=>?_)
       refine aH hF O O O O (aj hg7) ae _ (aZ hg8 rfl rfl rfl) (fun a hF=>?_)
       exact hJ8 _ ((hF.keep [44,0,1,2,3,4,6,7,5,33,36] (F':=[(44,_),(0,_),(1,_),(2,_),(3,_),(4,_),(6,_),(7,_),(5,_),(33,_),(36,_)]) O).bool (by rw [hg8]; rfl))
     refine aH hF O O O O (aj hg7) ae _ (aS O O) (fun a hF=>?_)
     refine bF (l2:=?lA9) hF [(49,.bool (((aI .eql (ea.v.v.k) (0)) && (aI .eql (ea.v.v.n) (0))) && (bn .eql ea.v.v.t []))),(0,.agg (ea.cells).toArray),(1,.agg ([.bool f.typed,.bool f.cased,.bool f.named,.bool f.valued,.bool f.args,.bool f.source]).toArray),(2,.pointer (some ⟨b1,0,none⟩)),(3,.pointer (some ⟨b4,0,none⟩)),(4,.bool false),(6,.pointer (some ⟨b1,6,none⟩)),(7,.agg ([.int .i64 ea.v.v.k,.int .i64 ea.v.v.n,ak ea.v.v.t,.slice ea.v.sA ea.v.v.s.length ea.v.sC]).toArray),(5,.pointer (some ⟨b7,0,none⟩)),(33,.bool ((((f.typed) || (bn .eql ea.typ [])) && ((f.cased) || (bn .eql ea.cas []))) && ((f.named) || (bn .eql ea.nam [])))),(36,.bool f.valued)] (fun hJ9=>?elA9) (fun a hF=>?flA9)
     case elA9 =>
      rcases tf ((aI .eql (ea.v.v.k) (0)) && (aI .eql (ea.v.v.n) (0))) with hg9 | hg9
      ·refine aF hF O O O O O (aG hg9) ae (fun a hF=>?_)
       refine aF hF O O O O O (aG hg9) ae (fun a hF=>?_)
       refine aF hF O O O O O (aG hg9) ae (fun a hF=>?_)
       refine aH hF O O O O (aj hg7) ae _ (aV hg9 rfl rfl rfl) (fun a hF=>?_)
       exact hJ9 _ ((hF.keep [49,0,1,2,3,4,6,7,5,33,36] (F':=[(49,_),(0,_),(1,_),(2,_),(3,_),(4,_),(6,_),(7,_),(5,_),(33,_),(36,_)]) O).bool (by rw [hg9]; rfl))
      ·refine aH hF O O O O (aj hg9) ae _ (yf 2 O H9 O qi O) (fun a hF=>?_)
       refine aH hF O O O O (aj hg9) ae _ (aX O hA11.q O 0 O O qE) (fun a hF=>?_)
       refine aH hF O O O O (aj hg9) ae _ (fP O O O O O) (fun a hF=>?_)
       refine aH hF O O O O (aj hg7) ae _ (aZ hg9 rfl rfl rfl) (fun a hF=>?_)
       exact hJ9 _ ((hF.keep [49,0,1,2,3,4,6,7,5,33,36] (F':=[(49,_),(0,_),(1,_),(2,_),(3,_),(4,_),(6,_),(7,_),(5,_),(33,_),(36,_)]) O).bool (by rw [hg9]; rfl))
     refine aH hF O O O O (aj hg7) ae _ (aS O O) (fun a hF=>?_)
     refine bF (l2:=?lA10) hF [(55,.bool ((((aI .eql (ea.v.v.k) (0)) && (aI .eql (ea.v.v.n) (0))) && (bn .eql ea.v.v.t [])) && (aI .eql (ea.v.v.s.length) (0)))),(0,.agg (ea.cells).toArray),(1,.agg ([.bool f.typed,.bool f.cased,.bool f.named,.bool f.valued,.bool f.args,.bool f.source]).toArray),(2,.pointer (some ⟨b1,0,none⟩)),(3,.pointer (some ⟨b4,0,none⟩)),(4,.bool false),(6,.pointer (some ⟨b1,6,none⟩)),(7,.agg ([.int .i64 ea.v.v.k,.int .i64 ea.v.v.n,ak ea.v.v.t,.slice ea.v.sA ea.v.v.s.length ea.v.sC]).toArray),(5,.pointer (some ⟨b7,0,none⟩)),(33,.bool ((((f.typed) || (bn .eql ea.typ [])) && ((f.cased) || (bn .eql ea.cas []))) && ((f.named) || (bn .eql ea.nam [])))),(36,.bool f.valued)] (fun hJ10=>?elA10) (fun a hF=>?flA10)
     case elA10 =>
      rcases tf (((aI .eql (ea.v.v.k) (0)) && (aI .eql (ea.v.v.n) (0))) && (bn .eql ea.v.v.t [])) with hg10 | hg10
      ·refine aF hF O O O O O (aG hg10) ae (fun a hF=>?_)
       refine aF hF O O O O O (aG hg10) ae (fun a hF=>?_)
       refine aF hF O O O O O (aG hg10) ae (fun a hF=>?_)
       refine aF hF O O O O O (aG hg10) ae (fun a hF=>?_)
       refine aH hF O O O O (aj hg7) ae _ (aV hg10 rfl rfl rfl) (fun a hF=>?_)
       exact hJ10 _ ((hF.keep [55,0,1,2,3,4,6,7,5,33,36] (F':=[(55,_),(0,_),(1,_),(2,_),(3,_),(4,_),(6,_),(7,_),(5,_),(33,_),(36,_)]) O).bool (by rw [hg10]; rfl))
      ·refine aH hF O O O O (aj hg10) ae _ (yf 3 O H9 O jW O) (fun a hF=>?_)
       refine aH hF O O O O (aj hg10) ae _ (aX O hA11.q O 0 O O jY) (fun a hF=>?_)
       refine aH hF O O O O (aj hg10) ae _ (aU O Ia O O) (fun a hF=>?_)
       refine aH hF O O O O (aj hg10) ae _ (ax O O O O O) (fun a hF=>?_)
       refine aH hF O O O O (aj hg7) ae _ (aZ hg10 rfl rfl rfl) (fun a hF=>?_)
       exact hJ10 _ ((hF.keep [55,0,1,2,3,4,6,7,5,33,36] (F':=[(55,_),(0,_),(1,_),(2,_),(3,_),(4,_),(6,_),(7,_),(5,_),(33,_),(36,_)]) O).bool (by rw [hg10]; rfl))
     refine aH hF O O O O (aj hg6) ae _ (aV hg7 rfl rfl rfl) (fun a hF=>?_)
     exact hJ7 _ ((hF.keep [56,0,1,2,3,4,6,7,5,33] (F':=[(56,_),(0,_),(1,_),(2,_),(3,_),(4,_),(6,_),(7,_),(5,_),(33,_)]) O).bool (by rw [hg7]; rfl))
    ·refine aF hF O O O O O (aG hg7) ae (fun a hF=>?_)
     refine aF hF O O O O O (aG hg7) ae (fun a hF=>?_)
     refine aF hF O O O O O (aG hg7) ae (fun a hF=>?_)
     refine aF hF O O O O O (aG hg7) ae (fun a hF=>?_)
     refine aW hF O O O O O ae (fun a hF=>?_)
     refine aW hF O O O O O ae (fun a hF=>?_)
     refine aW hF O O O O O ae (fun a hF=>?_)
     refine aF hF O O O O O (aG hg7) ae (fun a hF=>?_)
     refine aF hF O O O O O (aG hg7) ae (fun a hF=>?_)
     refine aW hF O O O O O ae (fun a hF=>?_)
     refine aW hF O O O O O ae (fun a hF=>?_)
     refine aW hF O O O O O ae (fun a hF=>?_)
     refine aF hF O O O O O (aG hg7) ae (fun a hF=>?_)
     refine aF hF O O O O O (aG hg7) ae (fun a hF=>?_)
     refine aW hF O O O O O ae (fun a hF=>?_)
     refine aW hF O O O O O ae (fun a hF=>?_)
     refine aW hF O O O O O ae (fun a hF=>?_)
     refine aW hF O O O O O ae (fun a hF=>?_)
     refine aF hF O O O O O (aG hg7) ae (fun a hF=>?_)
     refine aH hF O O O O (aj hg6) ae _ (aZ hg7 rfl rfl rfl) (fun a hF=>?_)
     exact hJ7 _ ((hF.keep [56,0,1,2,3,4,6,7,5,33] (F':=[(56,_),(0,_),(1,_),(2,_),(3,_),(4,_),(6,_),(7,_),(5,_),(33,_)]) O).bool (by rw [hg7]; rfl))
   refine vR hF<|vV O (aZ hg6 rfl rfl rfl) fun a hF=>?_
   exact hJ6 _ ((hF.keep [57,0,1,2,3,4,6,7,5] (F':=[(57,_),(0,_),(1,_),(2,_),(3,_),(4,_),(6,_),(7,_),(5,_)]) O).bool (by rw [hg6]; rfl))
 refine vR hF<|vX O fun a hF=>?_
 refine bF (l2:=?lA11) hF [(67,.bool ((((((f.typed) || (bn .eql ea.typ [])) && ((f.cased) || (bn .eql ea.cas []))) && ((f.named) || (bn .eql ea.nam []))) && ((f.valued) || ((((aI .eql (ea.v.v.k) (0)) && (aI .eql (ea.v.v.n) (0))) && (bn .eql ea.v.v.t [])) && (aI .eql (ea.v.v.s.length) (0))))) && ((f.args) || (aI .eql (ea.args.length) (0))))),(0,.agg (ea.cells).toArray),(1,.agg ([.bool f.typed,.bool f.cased,.bool f.named,.bool f.valued,.bool f.args,.bool f.source]).toArray),(2,.pointer (some ⟨b1,0,none⟩)),(3,.pointer (some ⟨b4,0,none⟩)),(4,.bool false),(6,.pointer (some ⟨b1,6,none⟩)),(7,.agg ([.int .i64 ea.v.v.k,.int .i64 ea.v.v.n,ak ea.v.v.t,.slice ea.v.sA ea.v.v.s.length ea.v.sC]).toArray),(5,.pointer (some ⟨b7,0,none⟩))] (fun hJ11=>?elA11) (fun a hF=>?flA11)
 case elA11 =>
  rcases tf (((((f.typed) || (bn .eql ea.typ [])) && ((f.cased) || (bn .eql ea.cas []))) && ((f.named) || (bn .eql ea.nam []))) && ((f.valued) || ((((aI .eql (ea.v.v.k) (0)) && (aI .eql (ea.v.v.n) (0))) && (bn .eql ea.v.v.t [])) && (aI .eql (ea.v.v.s.length) (0))))) with hg11 | hg11
  ·refine aF hF O O O O O (aG hg11) ae (fun a hF=>?_)
   refine aF hF O O O O O (aG hg11) ae (fun a hF=>?_)
   refine aF hF O O O O O (aG hg11) ae (fun a hF=>?_)
   refine aW hF O O O O O ae (fun a hF=>?_)
   refine aW hF O O O O O ae (fun a hF=>?_)
   refine aW hF O O O O O ae (fun a hF=>?_)
   refine aW hF O O O O O ae (fun a hF=>?_)
   refine aF hF O O O O O (aG hg11) ae (fun a hF=>?_)
   refine vR hF<|vV O (aV hg11 rfl rfl rfl) fun a hF=>?_
   exact hJ11 _ ((hF.keep [67,0,1,2,3,4,6,7,5] (F':=[(67,_),(0,_),(1,_),(2,_),(3,_),(4,_),(6,_),(7,_),(5,_)]) O).bool (by rw [hg11]; rfl))
  ·refine aH hF O O O O (aj hg11) ae _ (yf 4 O Ie O jh O) (fun a hF=>?_)
   refine aH hF O O O O (aj hg11) ae _ (aX O hA11.q O 1 O O jk) (fun a hF=>?_)
   refine aH hF O O O O (aj hg11) ae _ (aS O O) (fun a hF=>?_)
   refine bF (l2:=?lA12) hF [(66,.bool ((f.args) || (aI .eql (ea.args.length) (0)))),(0,.agg (ea.cells).toArray),(1,.agg ([.bool f.typed,.bool f.cased,.bool f.named,.bool f.valued,.bool f.args,.bool f.source]).toArray),(2,.pointer (some ⟨b1,0,none⟩)),(3,.pointer (some ⟨b4,0,none⟩)),(4,.bool false),(6,.pointer (some ⟨b1,6,none⟩)),(7,.agg ([.int .i64 ea.v.v.k,.int .i64 ea.v.v.n,ak ea.v.v.t,.slice ea.v.sA ea.v.v.s.length ea.v.sC]).toArray),(5,.pointer (some ⟨b7,0,none⟩)),(58,.bool (((((f.typed) || (bn .eql ea.typ [])) && ((f.cased) || (bn .eql ea.cas []))) && ((f.named) || (bn .eql ea.nam []))) && ((f.valued) || ((((aI .eql (ea.v.v.k) (0)) && (aI .eql (ea.v.v.n) (0))) && (bn .eql ea.v.v.t [])) && (aI .eql (ea.v.v.s.length) (0))))))] (fun hJ12=>?elA12) (fun a hF=>?flA12)
   case elA12 =>
    rcases tf (f.args) with hg12 | hg12
    ·refine aH hF O O O O (aj hg12) ae _ (yf 10 rfl Ic O ql O) (fun a hF=>?_)
     refine aH hF O O O O (aj hg12) ae _ (aX O hA11.q O 2 O O qG) (fun a hF=>?_)
     refine aH hF O O O O (aj hg12) ae _ (aU O Ig O O) (fun a hF=>?_)
     refine aH hF O O O O (aj hg12) ae _ (ax O O O O O) (fun a hF=>?_)
     refine aH hF O O O O (aj hg11) ae _ (aV hg12 rfl rfl rfl) (fun a hF=>?_)
     exact hJ12 _ ((hF.keep [66,0,1,2,3,4,6,7,5,58] (F':=[(66,_),(0,_),(1,_),(2,_),(3,_),(4,_),(6,_),(7,_),(5,_),(58,_)]) O).bool (by rw [hg12]; rfl))
    ·refine aF hF O O O O O (aG hg12) ae (fun a hF=>?_)
     refine aF hF O O O O O (aG hg12) ae (fun a hF=>?_)
     refine aF hF O O O O O (aG hg12) ae (fun a hF=>?_)
     refine aF hF O O O O O (aG hg12) ae (fun a hF=>?_)
     refine aH hF O O O O (aj hg11) ae _ (aZ hg12 rfl rfl rfl) (fun a hF=>?_)
     exact hJ12 _ ((hF.keep [66,0,1,2,3,4,6,7,5,58] (F':=[(66,_),(0,_),(1,_),(2,_),(3,_),(4,_),(6,_),(7,_),(5,_),(58,_)]) O).bool (by rw [hg12]; rfl))
   refine vR hF<|vV O (aZ hg11 rfl rfl rfl) fun a hF=>?_
   exact hJ11 _ ((hF.keep [67,0,1,2,3,4,6,7,5] (F':=[(67,_),(0,_),(1,_),(2,_),(3,_),(4,_),(6,_),(7,_),(5,_)]) O).bool (by rw [hg11]; rfl))
 refine vR hF<|vX O fun a hF=>?_
 refine bF (l2:=?lA13) hF [(77,.bool (((((((f.typed) || (bn .eql ea.typ [])) && ((f.cased) || (bn .eql ea.cas []))) && ((f.named) || (bn .eql ea.nam []))) && ((f.valued) || ((((aI .eql (ea.v.v.k) (0)) && (aI .eql (ea.v.v.n) (0))) && (bn .eql ea.v.v.t [])) && (aI .eql (ea.v.v.s.length) (0))))) && ((f.args) || (aI .eql (ea.args.length) (0)))) && ((f.source) || (aI .eql (ea.src.length) (0))))),(0,.agg (ea.cells).toArray),(1,.agg ([.bool f.typed,.bool f.cased,.bool f.named,.bool f.valued,.bool f.args,.bool f.source]).toArray),(2,.pointer (some ⟨b1,0,none⟩)),(4,.bool false),(6,.pointer (some ⟨b1,6,none⟩)),(7,.agg ([.int .i64 ea.v.v.k,.int .i64 ea.v.v.n,ak ea.v.v.t,.slice ea.v.sA ea.v.v.s.length ea.v.sC]).toArray),(5,.pointer (some ⟨b7,0,none⟩))] (fun hJ13=>?elA13) (fun a hF=>?flA13)
 case elA13 =>
  rcases tf ((((((f.typed) || (bn .eql ea.typ [])) && ((f.cased) || (bn .eql ea.cas []))) && ((f.named) || (bn .eql ea.nam []))) && ((f.valued) || ((((aI .eql (ea.v.v.k) (0)) && (aI .eql (ea.v.v.n) (0))) && (bn .eql ea.v.v.t [])) && (aI .eql (ea.v.v.s.length) (0))))) && ((f.args) || (aI .eql (ea.args.length) (0)))) with hg13 | hg13
  ·refine aF hF O O O O O (aG hg13) ae (fun a hF=>?_)
   refine aF hF O O O O O (aG hg13) ae (fun a hF=>?_)
   refine aF hF O O O O O (aG hg13) ae (fun a hF=>?_)
   refine aW hF O O O O O ae (fun a hF=>?_)
   refine aW hF O O O O O ae (fun a hF=>?_)
   refine aW hF O O O O O ae (fun a hF=>?_)
   refine aW hF O O O O O ae (fun a hF=>?_)
   refine aF hF O O O O O (aG hg13) ae (fun a hF=>?_)
   refine vR hF<|vV O (aV hg13 rfl rfl rfl) fun a hF=>?_
   exact hJ13 _ ((hF.keep [77,0,1,2,4,6,7,5] (F':=[(77,_),(0,_),(1,_),(2,_),(4,_),(6,_),(7,_),(5,_)]) O).bool (by rw [hg13]; rfl))
  ·refine aH hF O O O O (aj hg13) ae _ (yf 5 O Ie O jh O) (fun a hF=>?_)
   refine aH hF O O O O (aj hg13) ae _ (aX O hA11.q O 1 O O jk) (fun a hF=>?_)
   refine aH hF O O O O (aj hg13) ae _ (aS O O) (fun a hF=>?_)
   refine bF (l2:=?lA14) hF [(76,.bool ((f.source) || (aI .eql (ea.src.length) (0)))),(0,.agg (ea.cells).toArray),(1,.agg ([.bool f.typed,.bool f.cased,.bool f.named,.bool f.valued,.bool f.args,.bool f.source]).toArray),(2,.pointer (some ⟨b1,0,none⟩)),(4,.bool false),(6,.pointer (some ⟨b1,6,none⟩)),(7,.agg ([.int .i64 ea.v.v.k,.int .i64 ea.v.v.n,ak ea.v.v.t,.slice ea.v.sA ea.v.v.s.length ea.v.sC]).toArray),(5,.pointer (some ⟨b7,0,none⟩)),(68,.bool ((((((f.typed) || (bn .eql ea.typ [])) && ((f.cased) || (bn .eql ea.cas []))) && ((f.named) || (bn .eql ea.nam []))) && ((f.valued) || ((((aI .eql (ea.v.v.k) (0)) && (aI .eql (ea.v.v.n) (0))) && (bn .eql ea.v.v.t [])) && (aI .eql (ea.v.v.s.length) (0))))) && ((f.args) || (aI .eql (ea.args.length) (0)))))] (fun hJ14=>?elA14) (fun a hF=>?flA14)
   case elA14 =>
    rcases tf (f.source) with hg14 | hg14
    ·refine aH hF O O O O (aj hg14) ae _ (yf 11 rfl Ic O cZ O) (fun a hF=>?_)
     refine aH hF O O O O (aj hg14) ae _ (aX O hA11.q O 2 O O iE) (fun a hF=>?_)
     refine aH hF O O O O (aj hg14) ae _ (aU O Hw O O) (fun a hF=>?_)
     refine aH hF O O O O (aj hg14) ae _ (ax O O O O O) (fun a hF=>?_)
     refine aH hF O O O O (aj hg13) ae _ (aV hg14 rfl rfl rfl) (fun a hF=>?_)
     exact hJ14 _ ((hF.keep [76,0,1,2,4,6,7,5,68] (F':=[(76,_),(0,_),(1,_),(2,_),(4,_),(6,_),(7,_),(5,_),(68,_)]) O).bool (by rw [hg14]; rfl))
    ·refine aF hF O O O O O (aG hg14) ae (fun a hF=>?_)
     refine aF hF O O O O O (aG hg14) ae (fun a hF=>?_)
     refine aF hF O O O O O (aG hg14) ae (fun a hF=>?_)
     refine aF hF O O O O O (aG hg14) ae (fun a hF=>?_)
     refine aH hF O O O O (aj hg13) ae _ (aZ hg14 rfl rfl rfl) (fun a hF=>?_)
     exact hJ14 _ ((hF.keep [76,0,1,2,4,6,7,5,68] (F':=[(76,_),(0,_),(1,_),(2,_),(4,_),(6,_),(7,_),(5,_),(68,_)]) O).bool (by rw [hg14]; rfl))
   refine vR hF<|vV O (aZ hg13 rfl rfl rfl) fun a hF=>?_
   exact hJ13 _ ((hF.keep [77,0,1,2,4,6,7,5] (F':=[(77,_),(0,_),(1,_),(2,_),(4,_),(6,_),(7,_),(5,_)]) O).bool (by rw [hg13]; rfl))
 refine vR hF<|vX O<|vE hK3 fun a hF=>?_
 apply wp_ret
 refine aK hF Tryz.results135 O ?_
 have hA12:Hp w0 (R) w10:=hpS 3 [] [0,1,2] hA11 rfl
 exact ⟨by rw [zi],hA12⟩
theorem oI (l:List VA):(mD l).length=l.length*4:=by
 unfold mD
 induction l with
 | nil=>rfl
 | cons a l ih=>rw [List.map_cons,List.flatten_cons,List.length_append,ih]; show 4+l.length*4=(l.length+1)*4; omega
theorem BO (l:List VA):∀ v∈mD l,v.oneCell'=true:=fun v hv=>by
 obtain ⟨W,h1,h2⟩:=List.mem_flatten.1 hv
 obtain ⟨a,_,rfl⟩:=List.mem_map.1 h1
 simp only [List.mem_cons,List.not_mem_nil,or_false] at h2
 rcases h2 with rfl | rfl | rfl | rfl <;> rfl
theorem AB (a:VA) (w:World):(Instr.buildSlice 26 1 #[(0,.agg a.cells.toArray)]).run Tryz.prog w= .ok (.slice (some ⟨w.heap.size,0,none⟩) 1 1) (w.alloc (.cells a.cells.toArray 25)):=af
theorem tY:gX Tryz.prog 25 4 56:=jP (z:= .agg ([.int .i64 0,.int .i64 0,ak [],.slice none 0 0]:List Value).toArray) af af
theorem vJ {a b:Bool} (h:(a && !b)=true):a=true∧b=false:=by cases a <;> cases b <;> simp_all
theorem zS {a b c d e f:Bool} (h1:(a && !b)=false) (h2:(c && !d)=false) (h3:(e && !f)=false):¬ ((a=true∧b=false)∨(c=true∧d=false)∨(e=true∧f=false)):=by
 cases a <;> cases b <;> cases c <;> cases d <;> cases e <;> cases f <;> simp_all
theorem Fp {n:Nat} (h:aI .gtr (n:Int) 16=false):n≤16:=by simp [aI] at h; omega
theorem iQ {n:Nat} (h:aI .neq (n:Int) 0=true):¬ n=0:=by simp [aI] at h; exact h
theorem lG {n:Nat} (h:aI .neq (n:Int) 0=false):n=0:=by simp [aI] at h; exact h
theorem F8 {ea:EA} {f:Fld} (h0:(!((bZ ea.ev f)))=true):bJ ea.ev f=8:=by
 unfold bJ
 exact if_pos (by simpa using h0)
theorem uF {ea:EA} {f:Fld} (h0:(!((bZ ea.ev f)))=false) (hn:((f.cased=true∧di ea.cas 64=false)∨(f.typed=true∧bz ea.typ=false)∨(f.named=true∧bz ea.nam=false))):bJ ea.ev f=34:=by
 unfold bJ
 refine Eq.trans (if_neg (by simpa using h0)) ?_
 exact if_pos hn
theorem Gg {ea:EA} {f:Fld} (h0:(!((bZ ea.ev f)))=false) (hn:¬ ((f.cased=true∧di ea.cas 64=false)∨(f.typed=true∧bz ea.typ=false)∨(f.named=true∧bz ea.nam=false))) (h4:((aI .lss ea.num 0) || (aI .geq ea.num 1099511627776))=true):bJ ea.ev f=5:=by
 unfold bJ
 refine Eq.trans (if_neg (by simpa using h0)) ?_
 refine Eq.trans (if_neg hn) ?_
 exact if_pos (by simp [aI] at h4; show ea.num<0∨_≤ea.num; omega)
theorem CZ {ea:EA} {f:Fld} (h0:(!((bZ ea.ev f)))=false) (hn:¬ ((f.cased=true∧di ea.cas 64=false)∨(f.typed=true∧bz ea.typ=false)∨(f.named=true∧bz ea.nam=false))) (h4:((aI .lss ea.num 0) || (aI .geq ea.num 1099511627776))=false) (h5:((aI .lss ea.clk 0) || (aI .gtr ea.clk 4611686018427387904))=true):bJ ea.ev f=132:=by
 unfold bJ
 refine Eq.trans (if_neg (by simpa using h0)) ?_
 refine Eq.trans (if_neg hn) ?_
 refine Eq.trans (if_neg (by simp [aI] at h4; show ¬ (ea.num<0∨_≤ea.num); omega)) ?_
 exact if_pos (by simp [aI] at h5; show ea.clk<0∨_<ea.clk; omega)
theorem F9 {ea:EA} {f:Fld} (h0:(!((bZ ea.ev f)))=false) (hn:¬ ((f.cased=true∧di ea.cas 64=false)∨(f.typed=true∧bz ea.typ=false)∨(f.named=true∧bz ea.nam=false))) (h4:((aI .lss ea.num 0) || (aI .geq ea.num 1099511627776))=false) (h5:((aI .lss ea.clk 0) || (aI .gtr ea.clk 4611686018427387904))=false) (h6:(aI .gtr ((ea.args.length:Nat):Int) 16)=true):bJ ea.ev f=7:=by
 unfold bJ
 refine Eq.trans (if_neg (by simpa using h0)) ?_
 refine Eq.trans (if_neg hn) ?_
 refine Eq.trans (if_neg (by simp [aI] at h4; show ¬ (ea.num<0∨_≤ea.num); omega)) ?_
 refine Eq.trans (if_neg (by simp [aI] at h5; show ¬ (ea.clk<0∨_<ea.clk); omega)) ?_
 exact if_pos (by simp [aI] at h6; show 16<(ea.args.map VA.v).length; rw [List.length_map]; omega)
theorem F7 {ea:EA} {f:Fld} (h0:(!((bZ ea.ev f)))=false) (hn:¬ ((f.cased=true∧di ea.cas 64=false)∨(f.typed=true∧bz ea.typ=false)∨(f.named=true∧bz ea.nam=false))) (h4:((aI .lss ea.num 0) || (aI .geq ea.num 1099511627776))=false) (h5:((aI .lss ea.clk 0) || (aI .gtr ea.clk 4611686018427387904))=false) (h6:(aI .gtr ((ea.args.length:Nat):Int) 16)=false) {k:Nat} (hf:ig (ea.v.v::ea.args.map VA.v)=k) (hk:¬ k=0):bJ ea.ev f=k:=by
 unfold bJ
 refine Eq.trans (if_neg (by simpa using h0)) ?_
 refine Eq.trans (if_neg hn) ?_
 refine Eq.trans (if_neg (by simp [aI] at h4; show ¬ (ea.num<0∨_≤ea.num); omega)) ?_
 refine Eq.trans (if_neg (by simp [aI] at h5; show ¬ (ea.clk<0∨_<ea.clk); omega)) ?_
 refine Eq.trans (if_neg (by simp [aI] at h6; show ¬ 16<(ea.args.map VA.v).length; rw [List.length_map]; omega)) ?_
 refine Eq.trans (if_neg (show ¬ ig (ea.v.v::ea.args.map VA.v)=0 from fun hh=>hk (hf.symm.trans hh))) ?_
 exact hf
theorem Gf {ea:EA} {f:Fld} (h0:(!((bZ ea.ev f)))=false) (hn:¬ ((f.cased=true∧di ea.cas 64=false)∨(f.typed=true∧bz ea.typ=false)∨(f.named=true∧bz ea.nam=false))) (h4:((aI .lss ea.num 0) || (aI .geq ea.num 1099511627776))=false) (h5:((aI .lss ea.clk 0) || (aI .gtr ea.clk 4611686018427387904))=false) (h6:(aI .gtr ((ea.args.length:Nat):Int) 16)=false) (hf:ig (ea.v.v::ea.args.map VA.v)=0) (h7:(aI .gtr ((ea.src.length:Nat):Int) 60000)=true):bJ ea.ev f=6:=by
 unfold bJ
 refine Eq.trans (if_neg (by simpa using h0)) ?_
 refine Eq.trans (if_neg hn) ?_
 refine Eq.trans (if_neg (by simp [aI] at h4; show ¬ (ea.num<0∨_≤ea.num); omega)) ?_
 refine Eq.trans (if_neg (by simp [aI] at h5; show ¬ (ea.clk<0∨_<ea.clk); omega)) ?_
 refine Eq.trans (if_neg (by simp [aI] at h6; show ¬ 16<(ea.args.map VA.v).length; rw [List.length_map]; omega)) ?_
 refine Eq.trans (if_pos hf) ?_
 exact if_pos (by simp [aI] at h7; show 60000<ea.src.length; omega)
theorem EQ {ea:EA} {f:Fld} (h0:(!((bZ ea.ev f)))=false) (hn:¬ ((f.cased=true∧di ea.cas 64=false)∨(f.typed=true∧bz ea.typ=false)∨(f.named=true∧bz ea.nam=false))) (h4:((aI .lss ea.num 0) || (aI .geq ea.num 1099511627776))=false) (h5:((aI .lss ea.clk 0) || (aI .gtr ea.clk 4611686018427387904))=false) (h6:(aI .gtr ((ea.args.length:Nat):Int) 16)=false) (hf:ig (ea.v.v::ea.args.map VA.v)=0) (h7:(aI .gtr ((ea.src.length:Nat):Int) 60000)=false):bJ ea.ev f=0:=by
 unfold bJ
 refine Eq.trans (if_neg (by simpa using h0)) ?_
 refine Eq.trans (if_neg hn) ?_
 refine Eq.trans (if_neg (by simp [aI] at h4; show ¬ (ea.num<0∨_≤ea.num); omega)) ?_
 refine Eq.trans (if_neg (by simp [aI] at h5; show ¬ (ea.clk<0∨_<ea.clk); omega)) ?_
 refine Eq.trans (if_neg (by simp [aI] at h6; show ¬ 16<(ea.args.map VA.v).length; rw [List.length_map]; omega)) ?_
 refine Eq.trans (if_pos hf) ?_
 exact if_neg (by simp [aI] at h7; show ¬ 60000<ea.src.length; omega)
set_option maxRecDepth 100000 in
set_option maxHeartbeats 2000000 in
theorem uY {w0:World} {R:List Seg} {G:List Seg} (ea:EA) (f:Fld) (w:World) (hT:mF w0) (hV:ea.Ok w0 G) (hG:G⊆R) (hA:Hp w0 R w):Calls Tryz.prog 73 #[.agg ea.cells.toArray,.agg f.cells.toArray] w fun e w'=>e= .returned (.int .i64 (bJ ea.ev f:Nat))∧Hp w0 R w':=by
 have he32:ea.eff.length=32:=hV.i.2.2.2.2.2
 have hn:=hV.n
 have hsn:=hV.sn
 have hvn:=hV.v.n
 refine aP Tryz.func73 O Tryz.ntmps73 ai (fun a hF=>?_)
 refine wp_seq_k fun K1 hK1=>wp_region_lit ?_
 refine aB O (fun K hK=>eU (cs:=ea.cells) hF O ae rfl hA O (fun b1 w2 a hb1 hF hA3=>hK _ _ ?_))
 refine aB O (fun K hK=>eU (cs:=[.bool f.typed,.bool f.cased,.bool f.named,.bool f.valued,.bool f.args,.bool f.source]) hF O ae rfl hA3 O (fun b4 w5 a hb4 hF hA6=>hK _ _ ?_))
 refine vR hF<|vX O<|vE hK1<|wQ fun K2 hK2=>wBk<|wT fun K3 hK3=>vV O (bW (new:=[.int .i64 ea.op,.int .i64 ea.num,.int .i64 ea.clk,ak ea.typ,ak ea.cas,ak ea.nam,.int .i64 ea.v.v.k,.int .i64 ea.v.v.n,ak ea.v.v.t,.slice ea.v.sA ea.v.v.s.length ea.v.sC,.slice ea.aA ea.args.length ea.aC,.slice ea.bA ea.src.length ea.bC]++dc ea.eff) rfl hA6.q O 1 O CQ (by rw [List.length_append,aQ,he32]; exact Nat.le_of_ble_eq_true rfl) (by rw [List.drop_zero]; exact H6 (by rw [List.length_append,aQ,he32]; exact Nat.le_of_ble_eq_true rfl))) fun a hF=>?_
 refine vR hF<|vV O (bW (new:=[.bool f.typed,.bool f.cased,.bool f.named,.bool f.valued,.bool f.args,.bool f.source]) O hA6.q O 0 O iJ ai rfl) fun a hF=>?_
 refine aB O (fun K hK=>ay hF O ae BD rfl rfl ?_)
 with_reducible refine (Ar ea f _ hV (List.Subset.trans hG (bT (bT (gK)))) hA6).mono ?_
 rintro e' w7 ⟨rfl,hA8⟩
 refine ⟨_,rfl,fun a hF=>hK _ _ ?_⟩
 replace hA8:Hp w0 ([row b4 129 [.bool f.typed,.bool f.cased,.bool f.named,.bool f.valued,.bool f.args,.bool f.source]]::[row b1 31 ([.int .i64 ea.op,.int .i64 ea.num,.int .i64 ea.clk,ak ea.typ,ak ea.cas,ak ea.nam,.int .i64 ea.v.v.k,.int .i64 ea.v.v.n,ak ea.v.v.t,.slice ea.v.sA ea.v.v.s.length ea.v.sC,.slice ea.aA ea.args.length ea.aC,.slice ea.bA ea.src.length ea.bC]++dc ea.eff)]::R) w7:=hA8
 refine vR hF<|vV O (dM O O O)<|vX O<|vE hK3 fun a hF=>?_
 rcases tf (!(bZ ea.ev f)) with h0 | h0
 ·refine au hF O h0 ?_
  apply wp_seq_k; intro K4 hK4
  refine wS hF fun K5 hK5=>vV O (yf 1 O Ie O jh O)<|vV O (aX O hA8.q O 0 O O jk)<|vX O fun a hF=>?_
  refine bF (l2:=?lA1) hF [(21,.bool ((f.cased) && (!(di ea.cas 64)))),(0,.agg (ea.cells).toArray),(1,.agg ([.bool f.typed,.bool f.cased,.bool f.named,.bool f.valued,.bool f.args,.bool f.source]).toArray),(2,.pointer (some ⟨b1,0,none⟩)),(3,.pointer (some ⟨b4,0,none⟩)),(4,.int .i64 0),(9,.agg ([.int .i64 ea.op,.int .i64 ea.num,.int .i64 ea.clk,ak ea.typ,ak ea.cas,ak ea.nam,.int .i64 ea.v.v.k,.int .i64 ea.v.v.n,ak ea.v.v.t,.slice ea.v.sA ea.v.v.s.length ea.v.sC,.slice ea.aA ea.args.length ea.aC,.slice ea.bA ea.src.length ea.bC]++dc ea.eff).toArray),(10,.agg ([.bool f.typed,.bool f.cased,.bool f.named,.bool f.valued,.bool f.args,.bool f.source]).toArray),(11,.bool (bZ ea.ev f)),(12,.bool (!(bZ ea.ev f))),(8,.bool (!(bZ ea.ev f)))] (fun hJ1=>?elA1) (fun a hF=>?flA1)
  case elA1 =>
   rcases tf (f.cased) with hg1 | hg1
   ·refine aF hF O O O O O (aG hg1) ae (fun a hF=>?_)
    refine aF hF O O O O O (aG hg1) ae (fun a hF=>?_)
    refine aF hF O O O O O (aG hg1) ae (fun a hF=>?_)
    refine aF hF O O O O O (aG hg1) ae (fun a hF=>?_)
    refine vR hF<|vV O (aV hg1 rfl rfl rfl) fun a hF=>?_
    exact hJ1 _ ((hF.keep [21,0,1,2,3,4,9,10,11,12,8] (F':=[(21,_),(0,_),(1,_),(2,_),(3,_),(4,_),(9,_),(10,_),(11,_),(12,_),(8,_)]) O).bool (by rw [hg1]; rfl))
   ·refine aH hF O O O O (aj hg1) ae _ (yf 4 O Ic O qi O) (fun a hF=>?_)
    refine aH hF O O O O (aj hg1) ae _ (aX O hA8.q O 1 O O qE) (fun a hF=>?_)
    refine eF hF O O O (aj hg1) (fun K hK=>ay hF O ae BC rfl rfl ?_)
    with_reducible refine (DK ea.cas 64 ae _ hA8).mono ?_
    rintro e' w11 ⟨rfl,rfl⟩
    refine ⟨_,rfl,fun a hF=>hK _ _ ?_⟩
    refine aH hF O O O O (aj hg1) ae _ (dM O O O) (fun a hF=>?_)
    refine vR hF<|vV O (aZ hg1 rfl rfl rfl) fun a hF=>?_
    exact hJ1 _ ((hF.keep [21,0,1,2,3,4,9,10,11,12,8] (F':=[(21,_),(0,_),(1,_),(2,_),(3,_),(4,_),(9,_),(10,_),(11,_),(12,_),(8,_)]) O).bool (by rw [hg1]; rfl))
  refine vR hF<|vX O<|vE hK5 fun a hF=>?_
  rcases tf ((f.cased) && (!(di ea.cas 64))) with h1 | h1
  ·refine au hF O h1 ?_
   refine wS hF fun K6 hK6=>vV O (yf 0 O Ie O jh O)<|vV O (aX O hA8.q O 0 O O jk)<|vX O fun a hF=>?_
   refine bF (l2:=?lA2) hF [(29,.bool ((f.typed) && (!(bz ea.typ)))),(0,.agg (ea.cells).toArray),(1,.agg ([.bool f.typed,.bool f.cased,.bool f.named,.bool f.valued,.bool f.args,.bool f.source]).toArray),(2,.pointer (some ⟨b1,0,none⟩)),(3,.pointer (some ⟨b4,0,none⟩)),(4,.int .i64 0),(9,.agg ([.int .i64 ea.op,.int .i64 ea.num,.int .i64 ea.clk,ak ea.typ,ak ea.cas,ak ea.nam,.int .i64 ea.v.v.k,.int .i64 ea.v.v.n,ak ea.v.v.t,.slice ea.v.sA ea.v.v.s.length ea.v.sC,.slice ea.aA ea.args.length ea.aC,.slice ea.bA ea.src.length ea.bC]++dc ea.eff).toArray),(10,.agg ([.bool f.typed,.bool f.cased,.bool f.named,.bool f.valued,.bool f.args,.bool f.source]).toArray),(11,.bool (bZ ea.ev f)),(12,.bool (!(bZ ea.ev f))),(8,.bool (!(bZ ea.ev f))),(21,.bool ((f.cased) && (!(di ea.cas 64)))),(13,.bool ((f.cased) && (!(di ea.cas 64))))] (fun hJ2=>?elA2) (fun a hF=>?flA2)
   case elA2 =>
    rcases tf (f.typed) with hg2 | hg2
    ·refine aF hF O O O O O (aG hg2) ae (fun a hF=>?_)
     refine aF hF O O O O O (aG hg2) ae (fun a hF=>?_)
     refine aF hF O O O O O (aG hg2) ae (fun a hF=>?_)
     refine aF hF O O O O O (aG hg2) ae (fun a hF=>?_)
     refine vR hF<|vV O (aV hg2 rfl rfl rfl) fun a hF=>?_
     exact hJ2 _ ((hF.keep [29,0,1,2,3,4,9,10,11,12,8,21,13] (F':=[(29,_),(0,_),(1,_),(2,_),(3,_),(4,_),(9,_),(10,_),(11,_),(12,_),(8,_),(21,_),(13,_)]) O).bool (by rw [hg2]; rfl))
    ·refine aH hF O O O O (aj hg2) ae _ (yf 3 O Ic O qi O) (fun a hF=>?_)
     refine aH hF O O O O (aj hg2) ae _ (aX O hA8.q O 1 O O qE) (fun a hF=>?_)
     refine eF hF O O O (aj hg2) (fun K hK=>ay hF O ae wP rfl rfl ?_)
     with_reducible refine (kW ea.typ _ hT hA8).mono ?_
     rintro e' w14 ⟨rfl,rfl⟩
     refine ⟨_,rfl,fun a hF=>hK _ _ ?_⟩
     refine aH hF O O O O (aj hg2) ae _ (dM O O O) (fun a hF=>?_)
     refine vR hF<|vV O (aZ hg2 rfl rfl rfl) fun a hF=>?_
     exact hJ2 _ ((hF.keep [29,0,1,2,3,4,9,10,11,12,8,21,13] (F':=[(29,_),(0,_),(1,_),(2,_),(3,_),(4,_),(9,_),(10,_),(11,_),(12,_),(8,_),(21,_),(13,_)]) O).bool (by rw [hg2]; rfl))
   refine vR hF<|vX O<|vE hK6 fun a hF=>?_
   rcases tf ((f.typed) && (!(bz ea.typ))) with h2 | h2
   ·refine au hF O h2 ?_
    refine wp_region_lit ?_
    refine vR hF<|vV O (yf 2 O Ie O jh O)<|vV O (aX O hA8.q O 0 O O jk)<|vX O fun a hF=>?_
    refine bF (l2:=?lA3) hF [(37,.bool ((f.named) && (!(bz ea.nam)))),(0,.agg (ea.cells).toArray),(1,.agg ([.bool f.typed,.bool f.cased,.bool f.named,.bool f.valued,.bool f.args,.bool f.source]).toArray),(2,.pointer (some ⟨b1,0,none⟩)),(3,.pointer (some ⟨b4,0,none⟩)),(4,.int .i64 0),(9,.agg ([.int .i64 ea.op,.int .i64 ea.num,.int .i64 ea.clk,ak ea.typ,ak ea.cas,ak ea.nam,.int .i64 ea.v.v.k,.int .i64 ea.v.v.n,ak ea.v.v.t,.slice ea.v.sA ea.v.v.s.length ea.v.sC,.slice ea.aA ea.args.length ea.aC,.slice ea.bA ea.src.length ea.bC]++dc ea.eff).toArray),(10,.agg ([.bool f.typed,.bool f.cased,.bool f.named,.bool f.valued,.bool f.args,.bool f.source]).toArray),(11,.bool (bZ ea.ev f)),(12,.bool (!(bZ ea.ev f))),(8,.bool (!(bZ ea.ev f))),(21,.bool ((f.cased) && (!(di ea.cas 64)))),(13,.bool ((f.typed) && (!(bz ea.typ)))),(29,.bool ((f.typed) && (!(bz ea.typ))))] (fun hJ3=>?elA3) (fun a hF=>?flA3)
    case elA3 =>
     rcases tf (f.named) with hg3 | hg3
     ·refine aF hF O O O O O (aG hg3) ae (fun a hF=>?_)
      refine aF hF O O O O O (aG hg3) ae (fun a hF=>?_)
      refine aF hF O O O O O (aG hg3) ae (fun a hF=>?_)
      refine aF hF O O O O O (aG hg3) ae (fun a hF=>?_)
      refine vR hF<|vV O (aV hg3 rfl rfl rfl) fun a hF=>?_
      exact hJ3 _ ((hF.keep [37,0,1,2,3,4,9,10,11,12,8,21,13,29] (F':=[(37,_),(0,_),(1,_),(2,_),(3,_),(4,_),(9,_),(10,_),(11,_),(12,_),(8,_),(21,_),(13,_),(29,_)]) O).bool (by rw [hg3]; rfl))
     ·refine aH hF O O O O (aj hg3) ae _ (yf 5 O Ic O qi O) (fun a hF=>?_)
      refine aH hF O O O O (aj hg3) ae _ (aX O hA8.q O 1 O O qE) (fun a hF=>?_)
      refine eF hF O O O (aj hg3) (fun K hK=>ay hF O ae wP rfl rfl ?_)
      with_reducible refine (kW ea.nam _ hT hA8).mono ?_
      rintro e' w17 ⟨rfl,rfl⟩
      refine ⟨_,rfl,fun a hF=>hK _ _ ?_⟩
      refine aH hF O O O O (aj hg3) ae _ (dM O O O) (fun a hF=>?_)
      refine vR hF<|vV O (aZ hg3 rfl rfl rfl) fun a hF=>?_
      exact hJ3 _ ((hF.keep [37,0,1,2,3,4,9,10,11,12,8,21,13,29] (F':=[(37,_),(0,_),(1,_),(2,_),(3,_),(4,_),(9,_),(10,_),(11,_),(12,_),(8,_),(21,_),(13,_),(29,_)]) O).bool (by rw [hg3]; rfl))
    refine vR hF<|vX O<|vE hK4 fun a hF=>?_
    rcases tf ((f.named) && (!(bz ea.nam))) with h3 | h3
    ·refine au hF O h3 ?_
     refine wS hF fun K7 hK7=>vV O (yf 1 O Ic O gu O)<|vV O (aX O hA8.q O 1 O O jK)<|vV O (ax O O O O O)<|vX O fun a hF=>?_
     refine bF (l2:=?lA4) hF [(46,.bool ((aI .lss (ea.num) (0)) || (aI .geq (ea.num) (1099511627776)))),(0,.agg (ea.cells).toArray),(1,.agg ([.bool f.typed,.bool f.cased,.bool f.named,.bool f.valued,.bool f.args,.bool f.source]).toArray),(2,.pointer (some ⟨b1,0,none⟩)),(3,.pointer (some ⟨b4,0,none⟩)),(4,.int .i64 0),(9,.agg ([.int .i64 ea.op,.int .i64 ea.num,.int .i64 ea.clk,ak ea.typ,ak ea.cas,ak ea.nam,.int .i64 ea.v.v.k,.int .i64 ea.v.v.n,ak ea.v.v.t,.slice ea.v.sA ea.v.v.s.length ea.v.sC,.slice ea.aA ea.args.length ea.aC,.slice ea.bA ea.src.length ea.bC]++dc ea.eff).toArray),(10,.agg ([.bool f.typed,.bool f.cased,.bool f.named,.bool f.valued,.bool f.args,.bool f.source]).toArray),(11,.bool (bZ ea.ev f)),(12,.bool (!(bZ ea.ev f))),(8,.bool (!(bZ ea.ev f))),(21,.bool ((f.cased) && (!(di ea.cas 64)))),(13,.bool ((f.named) && (!(bz ea.nam)))),(29,.bool ((f.typed) && (!(bz ea.typ)))),(37,.bool ((f.named) && (!(bz ea.nam))))] (fun hJ4=>?elA4) (fun a hF=>?flA4)
     case elA4 =>
      rcases tf (aI .lss (ea.num) (0)) with hg4 | hg4
      ·refine aH hF O O O O (aj hg4) ae _ (yf 1 O Ic O gu O) (fun a hF=>?_)
       refine aH hF O O O O (aj hg4) ae _ (aX O hA8.q O 1 O O jK) (fun a hF=>?_)
       refine aH hF O O O O (aj hg4) ae _ (ax O O O O O) (fun a hF=>?_)
       refine vR hF<|vV O (aV hg4 rfl rfl rfl) fun a hF=>?_
       exact hJ4 _ ((hF.keep [46,0,1,2,3,4,9,10,11,12,8,21,13,29,37] (F':=[(46,_),(0,_),(1,_),(2,_),(3,_),(4,_),(9,_),(10,_),(11,_),(12,_),(8,_),(21,_),(13,_),(29,_),(37,_)]) O).bool (by rw [hg4]; rfl))
      ·refine aF hF O O O O O (aG hg4) ae (fun a hF=>?_)
       refine aF hF O O O O O (aG hg4) ae (fun a hF=>?_)
       refine aF hF O O O O O (aG hg4) ae (fun a hF=>?_)
       refine vR hF<|vV O (aZ hg4 rfl rfl rfl) fun a hF=>?_
       exact hJ4 _ ((hF.keep [46,0,1,2,3,4,9,10,11,12,8,21,13,29,37] (F':=[(46,_),(0,_),(1,_),(2,_),(3,_),(4,_),(9,_),(10,_),(11,_),(12,_),(8,_),(21,_),(13,_),(29,_),(37,_)]) O).bool (by rw [hg4]; rfl))
     refine vR hF<|vX O<|vE hK7 fun a hF=>?_
     have hnm:=zS h1 h2 h3
     rcases tf ((aI .lss (ea.num) (0)) || (aI .geq (ea.num) (1099511627776))) with h4 | h4
     ·refine au hF O h4 ?_
      refine wS hF fun K8 hK8=>vV O (yf 2 O Ic O gu O)<|vV O (aX O hA8.q O 1 O O jK)<|vV O (ax O O O O O)<|vX O fun a hF=>?_
      refine bF (l2:=?lA5) hF [(55,.bool ((aI .lss (ea.clk) (0)) || (aI .gtr (ea.clk) (4611686018427387904)))),(0,.agg (ea.cells).toArray),(1,.agg ([.bool f.typed,.bool f.cased,.bool f.named,.bool f.valued,.bool f.args,.bool f.source]).toArray),(2,.pointer (some ⟨b1,0,none⟩)),(3,.pointer (some ⟨b4,0,none⟩)),(4,.int .i64 0),(9,.agg ([.int .i64 ea.op,.int .i64 ea.num,.int .i64 ea.clk,ak ea.typ,ak ea.cas,ak ea.nam,.int .i64 ea.v.v.k,.int .i64 ea.v.v.n,ak ea.v.v.t,.slice ea.v.sA ea.v.v.s.length ea.v.sC,.slice ea.aA ea.args.length ea.aC,.slice ea.bA ea.src.length ea.bC]++dc ea.eff).toArray),(10,.agg ([.bool f.typed,.bool f.cased,.bool f.named,.bool f.valued,.bool f.args,.bool f.source]).toArray),(11,.bool (bZ ea.ev f)),(12,.bool (!(bZ ea.ev f))),(8,.bool (!(bZ ea.ev f))),(21,.bool ((f.cased) && (!(di ea.cas 64)))),(13,.bool ((f.named) && (!(bz ea.nam)))),(29,.bool ((f.typed) && (!(bz ea.typ)))),(37,.bool ((f.named) && (!(bz ea.nam)))),(46,.bool ((aI .lss (ea.num) (0)) || (aI .geq (ea.num) (1099511627776)))),(38,.bool ((aI .lss (ea.num) (0)) || (aI .geq (ea.num) (1099511627776))))] (fun hJ5=>?elA5) (fun a hF=>?flA5)
      case elA5 =>
       rcases tf (aI .lss (ea.clk) (0)) with hg5 | hg5
       ·refine aH hF O O O O (aj hg5) ae _ (yf 2 O Ic O gu O) (fun a hF=>?_)
        refine aH hF O O O O (aj hg5) ae _ (aX O hA8.q O 1 O O jK) (fun a hF=>?_)
        refine aH hF O O O O (aj hg5) ae _ (ax O O O O O) (fun a hF=>?_)
        refine vR hF<|vV O (aV hg5 rfl rfl rfl) fun a hF=>?_
        exact hJ5 _ ((hF.keep [55,0,1,2,3,4,9,10,11,12,8,21,13,29,37,46,38] (F':=[(55,_),(0,_),(1,_),(2,_),(3,_),(4,_),(9,_),(10,_),(11,_),(12,_),(8,_),(21,_),(13,_),(29,_),(37,_),(46,_),(38,_)]) O).bool (by rw [hg5]; rfl))
       ·refine aF hF O O O O O (aG hg5) ae (fun a hF=>?_)
        refine aF hF O O O O O (aG hg5) ae (fun a hF=>?_)
        refine aF hF O O O O O (aG hg5) ae (fun a hF=>?_)
        refine vR hF<|vV O (aZ hg5 rfl rfl rfl) fun a hF=>?_
        exact hJ5 _ ((hF.keep [55,0,1,2,3,4,9,10,11,12,8,21,13,29,37,46,38] (F':=[(55,_),(0,_),(1,_),(2,_),(3,_),(4,_),(9,_),(10,_),(11,_),(12,_),(8,_),(21,_),(13,_),(29,_),(37,_),(46,_),(38,_)]) O).bool (by rw [hg5]; rfl))
      refine vR hF<|vX O<|vE hK8 fun a hF=>?_
      rcases tf ((aI .lss (ea.clk) (0)) || (aI .gtr (ea.clk) (4611686018427387904))) with h5 | h5
      ·refine au hF O h5 ?_
       refine wS hF fun K9 hK9=>vV O (yf 10 rfl Ic O ql O)<|vV O (aX O hA8.q O 1 O O qG)<|vV O (aU O Ig O O)<|vV O (ax O O O O O)<|vX O<|vE hK9 fun a hF=>?_
       rcases tf (aI .gtr (ea.args.length) (16)) with h6 | h6
       ·refine au hF O h6 ?_
        have hle:=Fp h6
        apply wp_skip
        refine hK2 _ _ ?_
        apply wp_seq_k; intro K10 hK10
        refine wS hF fun K11 hK11=>vV O (yf 6 O Ic O kM O)<|vV O (bW (new:=[.int .i64 ea.v.v.k,.int .i64 ea.v.v.n,ak ea.v.v.t,.slice ea.v.sA ea.v.v.s.length ea.v.sC]) O hA8.q O 1 O CU (by rw [List.length_append]; exact Nat.le_add_right_of_le ai) rfl) fun a hF=>?_
        refine aB O (fun K hK=>lW (qs := #[(0,.agg ea.v.cells.toArray)]) (cells:=ea.v.cells.toArray) hF O ae rfl hA8 O (AB ea.v) (fun b18 w19 a hb18 hF hA20=>hK _ _ ?_))
        have hZ0:Buf 25 4 [row b18 25 ea.v.cells] (.slice (some ⟨b18,0,none⟩) 1 1) 1 ea.v.cells:=Buf.full rfl ae
        refine vR hF<|vV O (yf 10 rfl Ic O ql O)<|vV O (aX O hA20.q O 2 O O qG) fun a hF=>?_
        refine aB O (fun K hK=>dh hF O ae rfl hA20 0 O hZ0 Ig tY rfl rfl (Rc.srcC (W:=mD ea.args) (m:=ea.args.length) (size:=4) (R:=[row b18 25 ea.v.cells]::[row b4 129 [.bool f.typed,.bool f.cased,.bool f.named,.bool f.valued,.bool f.args,.bool f.source]]::[row b1 31 ([.int .i64 ea.op,.int .i64 ea.num,.int .i64 ea.clk,ak ea.typ,ak ea.cas,ak ea.nam,.int .i64 ea.v.v.k,.int .i64 ea.v.v.n,ak ea.v.v.t,.slice ea.v.sA ea.v.v.s.length ea.v.sC,.slice ea.aA ea.args.length ea.aC,.slice ea.bA ea.src.length ea.bC]++dc ea.eff)]::R) (hV.rc.mono (List.Subset.trans hG (bT (bT (bT (gK)))))) hA20.q Ig ae (oI _) (BO _)) ag ae (fun vB ZB w21 a hZ hF hA22=>hK _ _ ?_))
        replace hA22:Hp w0 (ZB::[row b4 129 [.bool f.typed,.bool f.cased,.bool f.named,.bool f.valued,.bool f.args,.bool f.source]]::[row b1 31 ([.int .i64 ea.op,.int .i64 ea.num,.int .i64 ea.clk,ak ea.typ,ak ea.cas,ak ea.nam,.int .i64 ea.v.v.k,.int .i64 ea.v.v.n,ak ea.v.v.t,.slice ea.v.sA ea.v.v.s.length ea.v.sC,.slice ea.aA ea.args.length ea.aC,.slice ea.bA ea.src.length ea.bC]++dc ea.eff)]::R) w21:=hA22
        replace hZ:Buf 25 4 ZB vB (ea.v::ea.args).length (mD (ea.v::ea.args)):=by rw [List.length_cons,Nat.add_comm]; exact hZ
        obtain ⟨A1,c1,rfl,hc1,hRc⟩:=hZ.rc (w0:=w0) (R:=[ZB]) (HY ..)
        obtain ⟨L,hL⟩:∃ L,L=ea.v::ea.args:=⟨_,rfl⟩
        rw [← hL] at hF hRc
        have hLk:∀ a∈L,a.Ok w0 G:=fun a ha=>by
         rw [hL] at ha
         rcases List.mem_cons.1 ha with rfl | ha
         ·exact hV.v
         ·exact hV.args _ ha
        have hLn:L.length≤17:=by rw [hL,List.length_cons]; omega
        refine vR hF<|vV O (aU O Ig O O)<|vX O<|vE hK11<|wBk fun a hF=>?_
        refine bM (G:=Nat) (fun i a x=>i≤L.length∧ig (L.map VA.v)=ig ((L.drop i).map VA.v)∧Fr 82 [(68,.int .i64 (i:Int)),(2,.pointer (some ⟨b1,0,none⟩)),(3,.pointer (some ⟨b4,0,none⟩)),(66,.slice A1 L.length c1),(67,.int .i64 L.length)] a∧Hp w0 (ZB::[row b4 129 [.bool f.typed,.bool f.cased,.bool f.named,.bool f.valued,.bool f.args,.bool f.source]]::[row b1 31 ([.int .i64 ea.op,.int .i64 ea.num,.int .i64 ea.clk,ak ea.typ,ak ea.cas,ak ea.nam,.int .i64 ea.v.v.k,.int .i64 ea.v.v.n,ak ea.v.v.t,.slice ea.v.sA ea.v.v.s.length ea.v.sC,.slice ea.aA ea.args.length ea.aC,.slice ea.bA ea.src.length ea.bC]++dc ea.eff)]::R) x) (fun i=>L.length-i) 0 (⟨Hy _,rfl,hF.keep [68,2,3,66,67] rfl,hA22⟩) ?_
        clear hF
        rintro i a w24 ⟨hi,hfr,hF,hA23⟩
        refine wS hF fun K12 hK12=>vV O (ax O O O O O)<|vE hK12<|wQ fun K13 hK13 a hF=>?_
        by_cases hlt:i<L.length
        ·refine az hF O (eG ag) ?_
         obtain ⟨va,hp⟩:∃ q,L[i]? = some q:=⟨_,List.getElem?_eq_getElem hlt⟩
         obtain ⟨hat,hle4⟩:=Go.Dk.flat_at (z:=4) (Ws:=L.map VA.cells) (V:=va.cells) (i:=i) (fun V hV=>by obtain ⟨u,_,rfl⟩:=List.mem_map.1 hV; rfl) (by rw [List.getElem?_map,hp]; rfl)
         obtain ⟨b,o,hsA,hc⟩:=hRc.ne (i:=i*4) (by have:=oI L; omega)
         rw [hsA] at hF
         rw [List.drop_eq_getElem_cons hlt,List.map_cons,(List.getElem?_eq_some_iff.1 hp).2,ig] at hfr
         have hva:=hLk va (List.mem_of_getElem? hp)
         have hvan:=hva.n
         apply wp_skip
         refine hK13 _ _ ?_
         apply wp_seq_k; intro K14 hK14
         apply wp_block
         refine wS hF fun K15 hK15=>vV O (bD O Ig kM O O i rfl hlt rfl)<|vV O (iH (new:=va.cells) rfl (Hq.sub hA23.q (List.cons_subset.2 ⟨((HY ..)),List.nil_subset _⟩)) O hc (i*4) hle4 rfl hat CU) fun a hF=>?_
         refine aB O (fun K hK=>cu hF O ae rfl hA23 (vN) (fun b25 w26 a hb25 hF hA27=>hK _ _ ?_))
         refine aB O (fun K hK=>aY (new:=[.int .i64 va.v.k,.int .i64 va.v.n,ak va.v.t,.slice va.sA va.v.s.length va.sC]) hF O O hA27 O O 0 O O (by simp [Value.oneCell']) kM (fun w28 hA29=>hK _ _ ?_))
         replace hA29:Hp w0 ([row b25 25 [.int .i64 va.v.k,.int .i64 va.v.n,ak va.v.t,.slice va.sA va.v.s.length va.sC]]::ZB::[row b4 129 [.bool f.typed,.bool f.cased,.bool f.named,.bool f.valued,.bool f.args,.bool f.source]]::[row b1 31 ([.int .i64 ea.op,.int .i64 ea.num,.int .i64 ea.clk,ak ea.typ,ak ea.cas,ak ea.nam,.int .i64 ea.v.v.k,.int .i64 ea.v.v.n,ak ea.v.v.t,.slice ea.v.sA ea.v.v.s.length ea.v.sC,.slice ea.aA ea.args.length ea.aC,.slice ea.bA ea.src.length ea.bC]++dc ea.eff)]::R) w28:=hA29
         refine aN<|hK15 _ _ ?_
         refine wS hF fun K16 hK16=>vV O (bW (new:=[.int .i64 va.v.k,.int .i64 va.v.n,ak va.v.t,.slice va.sA va.v.s.length va.sC]) O hA29.q O 0 O CU ai rfl) fun a hF=>?_
         refine aB O (fun K hK=>ay hF O ae BG rfl rfl ?_)
         with_reducible refine (nY va _ hva (List.Subset.trans hG (bT (bT (bT (bT (gK)))))) hA29).mono ?_
         rintro e' w30 ⟨rfl,hA31⟩
         refine ⟨_,rfl,fun a hF=>hK _ _ ?_⟩
         replace hA31:Hp w0 ([row b25 25 [.int .i64 va.v.k,.int .i64 va.v.n,ak va.v.t,.slice va.sA va.v.s.length va.sC]]::ZB::[row b4 129 [.bool f.typed,.bool f.cased,.bool f.named,.bool f.valued,.bool f.args,.bool f.source]]::[row b1 31 ([.int .i64 ea.op,.int .i64 ea.num,.int .i64 ea.clk,ak ea.typ,ak ea.cas,ak ea.nam,.int .i64 ea.v.v.k,.int .i64 ea.v.v.n,ak ea.v.v.t,.slice ea.v.sA ea.v.v.s.length ea.v.sC,.slice ea.aA ea.args.length ea.aC,.slice ea.bA ea.src.length ea.bC]++dc ea.eff)]::R) w30:=hA31
         refine vR hF<|vX O<|vE hK16<|wT fun K17 hK17=>vX O<|vV O (ax O O O O O)<|vE hK17 fun a hF=>?_
         rcases tf (aI .neq (((va.v.right:Nat):Int)) (0)) with hr | hr
         ·refine au hF O hr ?_
          rw [if_pos (lG hr)] at hfr
          rw [← hsA] at hF
          apply wp_skip
          refine hK14 _ _ ?_
          refine wp_region_lit ?_
          refine vR hF<|vV O (bQ O O O (Hz _ ag))<|vX O fun a hF=>?_
          refine aN ?_
          have hA32:Hp w0 (ZB::[row b4 129 [.bool f.typed,.bool f.cased,.bool f.named,.bool f.valued,.bool f.args,.bool f.source]]::[row b1 31 ([.int .i64 ea.op,.int .i64 ea.num,.int .i64 ea.clk,ak ea.typ,ak ea.cas,ak ea.nam,.int .i64 ea.v.v.k,.int .i64 ea.v.v.n,ak ea.v.v.t,.slice ea.v.sA ea.v.v.s.length ea.v.sC,.slice ea.aA ea.args.length ea.aC,.slice ea.bA ea.src.length ea.bC]++dc ea.eff)]::R) w30:=hpS 4 [1,2,3] [0] hA31 rfl
          exact ⟨i+1,ag,ag,hfr,hF.keep [68,2,3,66,67] rfl,hA32⟩
         ·refine az hF O hr ?_
          refine wS hF fun K18 hK18=>vX O<|vX O<|vE hK18 fun a hF=>?_
          apply wp_ret
          simp only [Exit.then,Exit.inBlock]
          refine aK hF Tryz.results73 O ?_
          have hA33:Hp w0 (R) w30:=hpS 4 [] [0,1,2,3] hA31 rfl
          exact ⟨by rw [F7 h0 hnm h4 h5 h6 (by rw [← List.map_cons,← hL,hfr,if_neg (iQ hr)]) (iQ hr)],hA33⟩
        ·refine au hF O (dU ag) ?_
         obtain rfl:i=L.length:=by omega
         rw [List.drop_length] at hfr
         apply wp_exit
         refine hK10 _ _ ?_
         apply wp_seq_k; intro K19 hK19
         refine wS hF fun K20 hK20=>vV O (yf 11 rfl Ic O cZ O)<|vV O (aX O hA23.q O 2 O O iE)<|vV O (aU O Hw O O)<|vV O (ax O O O O O)<|vE hK20 fun a hF=>?_
         rcases tf (aI .gtr (ea.src.length) (60000)) with h7 | h7
         ·refine au hF O h7 ?_
          apply wp_skip
          refine hK19 _ _ ?_
          refine wS hF fun K21 hK21=>vX O<|vE hK21 fun a hF=>?_
          apply wp_ret
          refine aK hF Tryz.results73 O ?_
          have hA34:Hp w0 (R) w24:=hpS 3 [] [0,1,2] hA23 rfl
          exact ⟨by rw [EQ h0 hnm h4 h5 h6 (by rw [← List.map_cons,← hL,hfr]; rfl) h7]; rfl,hA34⟩
         ·refine az hF O h7 ?_
          refine wS hF fun K22 hK22=>vX O<|vE hK22 fun a hF=>?_
          apply wp_ret
          simp only [Exit.then]
          refine aK hF Tryz.results73 O ?_
          have hA35:Hp w0 (R) w24:=hpS 3 [] [0,1,2] hA23 rfl
          exact ⟨by rw [Gf h0 hnm h4 h5 h6 (by rw [← List.map_cons,← hL,hfr]; rfl) h7]; rfl,hA35⟩
       ·refine az hF O h6 ?_
        refine wS hF fun K23 hK23=>vX O<|vE hK23 fun a hF=>?_
        apply wp_ret
        simp only [Exit.then,Exit.inBlock]
        refine aK hF Tryz.results73 O ?_
        have hA36:Hp w0 (R) w7:=hpS 2 [] [0,1] hA8 rfl
        exact ⟨by rw [F9 h0 hnm h4 h5 h6]; rfl,hA36⟩
      ·refine az hF O h5 ?_
       refine wS hF fun K24 hK24=>vX O<|vE hK24 fun a hF=>?_
       apply wp_ret
       simp only [Exit.then,Exit.inBlock]
       refine aK hF Tryz.results73 O ?_
       have hA37:Hp w0 (R) w7:=hpS 2 [] [0,1] hA8 rfl
       exact ⟨by rw [CZ h0 hnm h4 h5]; rfl,hA37⟩
     ·refine az hF O h4 ?_
      refine wS hF fun K25 hK25=>vX O<|vE hK25 fun a hF=>?_
      apply wp_ret
      simp only [Exit.then,Exit.inBlock]
      refine aK hF Tryz.results73 O ?_
      have hA38:Hp w0 (R) w7:=hpS 2 [] [0,1] hA8 rfl
      exact ⟨by rw [Gg h0 hnm h4]; rfl,hA38⟩
    ·refine az hF O h3 ?_
     refine wS hF fun K26 hK26=>vX O<|vE hK26 fun a hF=>?_
     apply wp_ret
     simp only [Exit.then,Exit.inBlock]
     refine aK hF Tryz.results73 O ?_
     have hA39:Hp w0 (R) w7:=hpS 2 [] [0,1] hA8 rfl
     exact ⟨by rw [uF h0 (.inr (.inr (vJ h3)))]; rfl,hA39⟩
   ·refine az hF O h2 ?_
    apply wp_skip
    refine hK4 _ _ ?_
    refine az hF O h2 ?_
    refine wS hF fun K27 hK27=>vX O<|vE hK27 fun a hF=>?_
    apply wp_ret
    simp only [Exit.then,Exit.inBlock]
    refine aK hF Tryz.results73 O ?_
    have hA40:Hp w0 (R) w7:=hpS 2 [] [0,1] hA8 rfl
    exact ⟨by rw [uF h0 (.inr (.inl (vJ h2)))]; rfl,hA40⟩
  ·refine az hF O h1 ?_
   apply wp_skip
   refine hK4 _ _ ?_
   refine az hF O h1 ?_
   refine wS hF fun K28 hK28=>vX O<|vE hK28 fun a hF=>?_
   apply wp_ret
   simp only [Exit.then,Exit.inBlock]
   refine aK hF Tryz.results73 O ?_
   have hA41:Hp w0 (R) w7:=hpS 2 [] [0,1] hA8 rfl
   exact ⟨by rw [uF h0 (.inl (vJ h1))]; rfl,hA41⟩
 ·refine az hF O h0 ?_
  refine wS hF fun K29 hK29=>vX O<|vE hK29 fun a hF=>?_
  apply wp_ret
  simp only [Exit.then,Exit.inBlock]
  refine aK hF Tryz.results73 O ?_
  have hA42:Hp w0 (R) w7:=hpS 2 [] [0,1] hA8 rfl
  exact ⟨by rw [F8 h0]; rfl,hA42⟩
end Go.Proofs.YtepbmdlgdaedpaaGreatDoor
