/- Values and events held against one another. -/
import Derived.Test.YtepbmdlgdaedpaaGreatDoorEv7
import Derived.Test.YtepbmdlgdaedpaaGreatDoorBk
/- Values and events held against one another. -/
namespace Go.Proofs.YtepbmdlgdaedpaaGreatDoor
open Go.RowKit Go.Dk
theorem Ji:aK Tryz.prog 23:=⟨_,Tryz.func23,af,af⟩
theorem Bg:aK Tryz.prog 25:=⟨_,Tryz.func25,af,af⟩
theorem IW:aK Tryz.prog 86:=⟨_,Tryz.func86,af,af⟩
theorem IU:aK Tryz.prog 92:=⟨_,Tryz.func92,af,af⟩
theorem DC {a b:Val}:a=b↔a.k=b.k∧a.n=b.n∧a.t=b.t∧a.s=b.s:=by
 cases a; cases b
 simp
instance:DecidableEq Val:=fun a b=>decidable_of_iff _ (DC (a:=a) (b:=b)).symm
theorem DR {va vb:VA}:((((aI .eql (va.v.k) (vb.v.k)) && (aI .eql (va.v.n) (vb.v.n))) && (bJ .eql va.v.t vb.v.t)) && ((decide (va.v.s=vb.v.s))))=decide (va.v=vb.v):=by
 rw [Bool.eq_iff_iff]
 simp only [aI,bJ,Bool.and_eq_true,decide_eq_true_eq,beq_iff_eq,DC,and_assoc]
set_option maxRecDepth 100000 in
set_option maxHeartbeats 4000000 in
theorem lS {w0:World} {R:List Seg} {G H:List Seg} (va vb:VA) (w:World) (hV:va.Ok w0 G) (hG:G⊆R) (hW:vb.Ok w0 H) (hH:H⊆R) (hA:Hp w0 R w):Calls Tryz.prog 25 #[.agg va.cells.toArray,.agg vb.cells.toArray] w fun e w'=>e= .returned (.bool (decide (va.v=vb.v)))∧Hp w0 R w':=by
 have hn:=hV.n
 have hm:=hW.n
 refine aP Tryz.func25 O Tryz.ntmps25 ai (fun a hF=>?_)
 refine wp_seq_k fun K1 hK1=>wp_region_lit ?_
 refine ax O (fun K hK=>ed (cs:=[.int .i64 va.v.k,.int .i64 va.v.n,aj va.v.t,.slice va.sA va.v.s.length va.sC]) hF O ae rfl hA O (fun b1 w2 a hb1 hF hA3=>hK _ _ ?_))
 refine ax O (fun K hK=>ed (cs:=[.int .i64 vb.v.k,.int .i64 vb.v.n,aj vb.v.t,.slice vb.sA vb.v.s.length vb.sC]) hF O ae rfl hA3 O (fun b4 w5 a hb4 hF hA6=>hK _ _ ?_))
 refine vR hF<|vX O<|vE hK1<|wT fun K2 hK2=>vV O (yf 0 O ND O iZ O)<|vV O (aU O hA6.q O 1 O O ja)<|vV O (yf 0 O ND O iZ O)<|vV O (aU O hA6.q O 0 O O ja)<|vV O (aF O O O O O)<|vX O fun a hF=>?_
 refine bK (l2:=?lA1) hF [(16,.bool ((aI .eql (va.v.k) (vb.v.k)) && (aI .eql (va.v.n) (vb.v.n)))),(0,.agg ([.int .i64 va.v.k,.int .i64 va.v.n,aj va.v.t,.slice va.sA va.v.s.length va.sC]).toArray),(1,.agg ([.int .i64 vb.v.k,.int .i64 vb.v.n,aj vb.v.t,.slice vb.sA vb.v.s.length vb.sC]).toArray),(2,.pointer (some ⟨b1,0,none⟩)),(3,.pointer (some ⟨b4,0,none⟩)),(4,.bool false)] (fun hJ1=>?elA1) (fun a hF=>?flA1)
 case elA1 =>
  rcases tf (aI .eql (va.v.k) (vb.v.k)) with hg1 | hg1
  ·refine az hF O O O O O (aB hg1) ae (fun a hF=>?_)
   refine az hF O O O O O (aB hg1) ae (fun a hF=>?_)
   refine az hF O O O O O (aB hg1) ae (fun a hF=>?_)
   refine az hF O O O O O (aB hg1) ae (fun a hF=>?_)
   refine az hF O O O O O (aB hg1) ae (fun a hF=>?_)
   refine vR hF<|vV O (bu hg1 rfl rfl rfl) fun a hF=>?_
   exact hJ1 _ ((hF.keep [16,0,1,2,3,4] (F':=[(16,_),(0,_),(1,_),(2,_),(3,_),(4,_)]) O).bool (by rw [hg1]; rfl))
  ·refine aJ hF O O O O (ak hg1) ae _ (yf 1 O ND O gZ O) (fun a hF=>?_)
   refine aJ hF O O O O (ak hg1) ae _ (aU O hA6.q O 1 O O jZ) (fun a hF=>?_)
   refine aJ hF O O O O (ak hg1) ae _ (yf 1 O ND O gZ O) (fun a hF=>?_)
   refine aJ hF O O O O (ak hg1) ae _ (aU O hA6.q O 0 O O jZ) (fun a hF=>?_)
   refine aJ hF O O O O (ak hg1) ae _ (aF O O O O O) (fun a hF=>?_)
   refine vR hF<|vV O (bF hg1 rfl rfl rfl) fun a hF=>?_
   exact hJ1 _ ((hF.keep [16,0,1,2,3,4] (F':=[(16,_),(0,_),(1,_),(2,_),(3,_),(4,_)]) O).bool (by rw [hg1]; rfl))
 refine vR hF<|vX O fun a hF=>?_
 refine bK (l2:=?lA2) hF [(23,.bool (((aI .eql (va.v.k) (vb.v.k)) && (aI .eql (va.v.n) (vb.v.n))) && (bJ .eql va.v.t vb.v.t))),(0,.agg ([.int .i64 va.v.k,.int .i64 va.v.n,aj va.v.t,.slice va.sA va.v.s.length va.sC]).toArray),(1,.agg ([.int .i64 vb.v.k,.int .i64 vb.v.n,aj vb.v.t,.slice vb.sA vb.v.s.length vb.sC]).toArray),(2,.pointer (some ⟨b1,0,none⟩)),(3,.pointer (some ⟨b4,0,none⟩)),(4,.bool false)] (fun hJ2=>?elA2) (fun a hF=>?flA2)
 case elA2 =>
  rcases tf ((aI .eql (va.v.k) (vb.v.k)) && (aI .eql (va.v.n) (vb.v.n))) with hg2 | hg2
  ·refine az hF O O O O O (aB hg2) ae (fun a hF=>?_)
   refine az hF O O O O O (aB hg2) ae (fun a hF=>?_)
   refine az hF O O O O O (aB hg2) ae (fun a hF=>?_)
   refine az hF O O O O O (aB hg2) ae (fun a hF=>?_)
   refine az hF O O O O O (aB hg2) ae (fun a hF=>?_)
   refine vR hF<|vV O (bu hg2 rfl rfl rfl) fun a hF=>?_
   exact hJ2 _ ((hF.keep [23,0,1,2,3,4] (F':=[(23,_),(0,_),(1,_),(2,_),(3,_),(4,_)]) O).bool (by rw [hg2]; rfl))
  ·refine aJ hF O O O O (ak hg2) ae _ (yf 2 O ND O uC O) (fun a hF=>?_)
   refine aJ hF O O O O (ak hg2) ae _ (aU O hA6.q O 1 O O uV) (fun a hF=>?_)
   refine aJ hF O O O O (ak hg2) ae _ (yf 2 O ND O uC O) (fun a hF=>?_)
   refine aJ hF O O O O (ak hg2) ae _ (aU O hA6.q O 0 O O uV) (fun a hF=>?_)
   refine aJ hF O O O O (ak hg2) ae _ (fA O O O O O) (fun a hF=>?_)
   refine vR hF<|vV O (bF hg2 rfl rfl rfl) fun a hF=>?_
   exact hJ2 _ ((hF.keep [23,0,1,2,3,4] (F':=[(23,_),(0,_),(1,_),(2,_),(3,_),(4,_)]) O).bool (by rw [hg2]; rfl))
 refine vR hF<|vX O fun a hF=>?_
 refine wR (l2:=?lA3) hF (fun x=>Hp w0 ([row b4 25 [.int .i64 vb.v.k,.int .i64 vb.v.n,aj vb.v.t,.slice vb.sA vb.v.s.length vb.sC]]::[row b1 25 [.int .i64 va.v.k,.int .i64 va.v.n,aj va.v.t,.slice va.sA va.v.s.length va.sC]]::R) x) [(30,.bool ((((aI .eql (va.v.k) (vb.v.k)) && (aI .eql (va.v.n) (vb.v.n))) && (bJ .eql va.v.t vb.v.t)) && ((decide (va.v.s=vb.v.s))))),(0,.agg ([.int .i64 va.v.k,.int .i64 va.v.n,aj va.v.t,.slice va.sA va.v.s.length va.sC]).toArray),(1,.agg ([.int .i64 vb.v.k,.int .i64 vb.v.n,aj vb.v.t,.slice vb.sA vb.v.s.length vb.sC]).toArray),(4,.bool false)] (fun hJ3=>?elA3) (fun a w7 hF hA8=>?flA3)
 case elA3 =>
  rcases tf (((aI .eql (va.v.k) (vb.v.k)) && (aI .eql (va.v.n) (vb.v.n))) && (bJ .eql va.v.t vb.v.t)) with hg3 | hg3
  ·refine az hF O O O O O (aB hg3) ae (fun a hF=>?_)
   refine az hF O O O O O (aB hg3) ae (fun a hF=>?_)
   refine az hF O O O O O (aB hg3) ae (fun a hF=>?_)
   refine az hF O O O O O (aB hg3) ae (fun a hF=>?_)
   refine az hF O O O O O (aB hg3) ae (fun a hF=>?_)
   refine vR hF<|vV O (bu hg3 rfl rfl rfl) fun a hF=>?_
   exact hJ3 _ _ ((hF.keep [30,0,1,4] (F':=[(30,_),(0,_),(1,_),(4,_)]) O).bool (by rw [hg3]; rfl)) hA6
  ·refine aJ hF O O O O (ak hg3) ae _ (yf 3 O ND O mf O) (fun a hF=>?_)
   refine aJ hF O O O O (ak hg3) ae _ (aU O hA6.q O 1 O O mi) (fun a hF=>?_)
   refine aJ hF O O O O (ak hg3) ae _ (yf 3 O ND O mf O) (fun a hF=>?_)
   refine aJ hF O O O O (ak hg3) ae _ (aU O hA6.q O 0 O O mi) (fun a hF=>?_)
   refine gI hF O O O (ak hg3) (fun K hK=>ay hF O ae IU rfl rfl ?_)
   with_reducible refine (lu w0 _ ([row b4 25 [.int .i64 vb.v.k,.int .i64 vb.v.n,aj vb.v.t,.slice vb.sA vb.v.s.length vb.sC]]::[row b1 25 [.int .i64 va.v.k,.int .i64 va.v.n,aj va.v.t,.slice va.sA va.v.s.length va.sC]]::R) va.sA vb.sA va.v.s vb.v.s va.sC vb.sC (hV.rc.mono (List.Subset.trans hG (bM (bM (dR))))) (hW.rc.mono (List.Subset.trans hH (bM (bM (dR))))) hA6 hV.n).mono ?_
   rintro e' w9 ⟨rfl,hA10⟩
   refine ⟨_,rfl,fun a hF=>hK _ _ ?_⟩
   replace hA10:Hp w0 ([row b4 25 [.int .i64 vb.v.k,.int .i64 vb.v.n,aj vb.v.t,.slice vb.sA vb.v.s.length vb.sC]]::[row b1 25 [.int .i64 va.v.k,.int .i64 va.v.n,aj va.v.t,.slice va.sA va.v.s.length va.sC]]::R) w9:=hA10
   refine vR hF<|vV O (bF hg3 rfl rfl rfl) fun a hF=>?_
   exact hJ3 _ _ ((hF.keep [30,0,1,4] (F':=[(30,_),(0,_),(1,_),(4,_)]) O).bool (by rw [hg3]; rfl)) hA10
 replace hA8:Hp w0 ([row b4 25 [.int .i64 vb.v.k,.int .i64 vb.v.n,aj vb.v.t,.slice vb.sA vb.v.s.length vb.sC]]::[row b1 25 [.int .i64 va.v.k,.int .i64 va.v.n,aj va.v.t,.slice va.sA va.v.s.length va.sC]]::R) w7:=hA8
 refine vR hF<|vX O<|vE hK2 fun a hF=>?_
 apply wp_ret
 refine aO hF Tryz.results25 O ?_
 have hA11:Hp w0 (R) w7:=hpS 2 [] [0,1] hA8 rfl
 exact ⟨by rw [DR],hA11⟩
set_option maxRecDepth 100000 in
set_option maxHeartbeats 4000000 in
theorem EX {w0:World} {R:List Seg} {A1 A2:Option Addr} {l1 l2:List UInt8} {c1 c2:Nat} (w:World) (hR1:Rd w0 R A1 l1) (hR2:Rd w0 R A2 l2) (hn:l1.length≤9223372036854775807) (hA:Hp w0 R w):Calls Tryz.prog 23 #[.slice A1 l1.length c1,.slice A2 l2.length c2] w fun e w'=>e= .returned (.bool (decide (l1=l2)))∧Hp w0 R w':=by
 refine aP Tryz.func23 O Tryz.ntmps23 ai (fun a hF=>?_)
 refine wS hF fun K1 hK1=>vX O<|vE hK1<|wT fun K2 hK2=>vX O<|vX O fun a hF=>?_
 refine ax O (fun K hK=>ay hF O ae IW rfl rfl ?_)
 with_reducible refine (mW w0 _ R A1 A2 l1 l2 c1 c2 hR1 hR2 hA hn).mono ?_
 rintro e' w1 ⟨rfl,hA2⟩
 refine ⟨_,rfl,fun a hF=>hK _ _ ?_⟩
 replace hA2:Hp w0 (R) w1:=hA2
 refine vR hF<|vX O<|vE hK2 fun a hF=>?_
 apply wp_ret
 refine aO hF Tryz.results23 O ?_
 exact ⟨rfl,hA2⟩
theorem event_eq {a b:Ev}:a=b↔a.op=b.op∧a.num=b.num∧a.clk=b.clk∧a.typ=b.typ∧a.cas=b.cas∧a.nam=b.nam∧a.v=b.v∧a.args=b.args∧a.src=b.src∧a.eff=b.eff:=by
 cases a; cases b
 simp
instance:DecidableEq Ev:=fun a b=>decidable_of_iff _ (event_eq (a:=a) (b:=b)).symm
def Jp (ea eb:EA):Prop:=ea.op=eb.op∧ea.num=eb.num∧ea.clk=eb.clk∧ea.typ=eb.typ∧ea.cas=eb.cas∧ea.nam=eb.nam∧ea.eff=eb.eff
theorem hd_iff {ea eb:EA}:(((((((aI .neq (ea.op) (eb.op)) || (aI .neq (ea.num) (eb.num))) || (aI .neq (ea.clk) (eb.clk))) || (bJ .neq ea.typ eb.typ)) || (bJ .neq ea.cas eb.cas)) || (bJ .neq ea.nam eb.nam)) || (!(decide (ea.eff=eb.eff))))=false↔Jp ea eb:=by
 unfold Jp
 simp only [aI,bJ,Bool.or_eq_false_iff,bne_eq_false_iff_eq,Bool.not_eq_false',beq_iff_eq,decide_eq_true_eq,and_assoc]
theorem hd_ok {ea eb:EA} (h:(((((((aI .neq (ea.op) (eb.op)) || (aI .neq (ea.num) (eb.num))) || (aI .neq (ea.clk) (eb.clk))) || (bJ .neq ea.typ eb.typ)) || (bJ .neq ea.cas eb.cas)) || (bJ .neq ea.nam eb.nam)) || (!(decide (ea.eff=eb.eff))))=false):Jp ea eb:=hd_iff.1 h
theorem LY {ea eb:EA} (h:(((((((aI .neq (ea.op) (eb.op)) || (aI .neq (ea.num) (eb.num))) || (aI .neq (ea.clk) (eb.clk))) || (bJ .neq ea.typ eb.typ)) || (bJ .neq ea.cas eb.cas)) || (bJ .neq ea.nam eb.nam)) || (!(decide (ea.eff=eb.eff))))=true):decide (ea.ev=eb.ev)=false:=decide_eq_false fun e=>by
 obtain ⟨e1,e2,e3,e4,e5,e6,_,_,_,e10⟩:=event_eq.1 e
 rw [hd_iff.2 ⟨e1,e2,e3,e4,e5,e6,e10⟩] at h
 exact absurd h ae
theorem ln_iff {ea eb:EA}:(((!(decide (ea.v.v=eb.v.v))) || (!(decide (ea.src=eb.src)))) || (aI .neq (ea.args.length) (eb.args.length)))=false↔ea.v.v=eb.v.v∧ea.src=eb.src∧ea.args.length=eb.args.length:=by
 simp only [aI,Bool.or_eq_false_iff,bne_eq_false_iff_eq,Bool.not_eq_false',decide_eq_true_eq,and_assoc,Int.ofNat_inj]
theorem LJ {ea eb:EA} (h:(((!(decide (ea.v.v=eb.v.v))) || (!(decide (ea.src=eb.src)))) || (aI .neq (ea.args.length) (eb.args.length)))=false):ea.v.v=eb.v.v∧ea.src=eb.src∧ea.args.length=eb.args.length:=ln_iff.1 h
theorem LK {ea eb:EA} (h:(((!(decide (ea.v.v=eb.v.v))) || (!(decide (ea.src=eb.src)))) || (aI .neq (ea.args.length) (eb.args.length)))=true):decide (ea.ev=eb.ev)=false:=decide_eq_false fun e=>by
 obtain ⟨_,_,_,_,_,_,e7,e8,e9,_⟩:=event_eq.1 e
 have e8':ea.args.map VA.v=eb.args.map VA.v:=e8
 have:=congrArg List.length e8'
 rw [List.length_map,List.length_map] at this
 rw [ln_iff.2 ⟨e7,e9,this⟩] at h
 exact absurd h ae
theorem KN {ea eb:EA} {i:Nat} {va vb:VA} (h1:ea.args[i]? = some va) (h2:eb.args[i]? = some vb) (h:¬ va.v=vb.v):decide (ea.ev=eb.ev)=false:=decide_eq_false fun e=>h (by
 obtain ⟨_,_,_,_,_,_,_,e8,_,_⟩:=event_eq.1 e
 have e8':ea.args.map VA.v=eb.args.map VA.v:=e8
 have:=congrArg (fun l=>l[i]?) e8'
 simp only [List.getElem?_map,h1,h2,Option.map_some] at this
 injection this)
theorem Gv {ea eb:EA} {i:Nat} {va vb:VA} (h1:ea.args[i]? = some va) (h2:eb.args[i]? = some vb) (hq:(ea.args.take i).map VA.v=(eb.args.take i).map VA.v) (h:va.v=vb.v):(ea.args.take (i+1)).map VA.v=(eb.args.take (i+1)).map VA.v:=by
 rw [List.take_add_one,List.take_add_one,h1,h2,List.map_append,List.map_append,hq]
 simp [h]
theorem KP {ea eb:EA} (hd:Jp ea eb) (hv:ea.v.v=eb.v.v) (hs:ea.src=eb.src) (ha:ea.args.map VA.v=eb.args.map VA.v):decide (ea.ev=eb.ev)=true:=decide_eq_true (event_eq.2 ⟨hd.1,hd.2.1,hd.2.2.1,hd.2.2.2.1,hd.2.2.2.2.1,hd.2.2.2.2.2.1,hv,ha,hs,hd.2.2.2.2.2.2⟩)
set_option maxRecDepth 100000 in
set_option maxHeartbeats 4000000 in
theorem rM {w0:World} {R:List Seg} {G H:List Seg} (ea eb:EA) (w:World) (hV:ea.Ok w0 G) (hG:G⊆R) (hW:eb.Ok w0 H) (hH:H⊆R) (hA:Hp w0 R w):Calls Tryz.prog 22 #[.agg ea.cells.toArray,.agg eb.cells.toArray] w fun e w'=>e= .returned (.bool (decide (ea.ev=eb.ev)))∧Hp w0 R w':=by
 have he32:ea.eff.length=32:=hV.i.2.2.2.2.2
 have hb32:eb.eff.length=32:=hW.i.2.2.2.2.2
 have hn:=hV.n
 have hm:=hW.n
 have hsn:=hV.sn
 refine aP Tryz.func22 O Tryz.ntmps22 ai (fun a hF=>?_)
 refine wp_seq_k fun K1 hK1=>wp_region_lit ?_
 refine ax O (fun K hK=>ed (cs:=ea.cells) hF O ae rfl hA O (fun b1 w2 a hb1 hF hA3=>hK _ _ ?_))
 refine ax O (fun K hK=>ed (cs:=eb.cells) hF O ae rfl hA3 O (fun b4 w5 a hb4 hF hA6=>hK _ _ ?_))
 refine vR hF<|vX O<|vE hK1<|wQ fun K2 hK2=>wT fun K3 hK3=>vV O (yf 0 O NE O gZ O)<|vV O (aU O hA6.q O 1 O O jZ)<|vV O (yf 0 O NE O gZ O)<|vV O (aU O hA6.q O 0 O O jZ)<|vV O (aF O O O O O)<|vX O fun a hF=>?_
 refine bK (l2:=?lA1) hF [(17,.bool ((aI .neq (ea.op) (eb.op)) || (aI .neq (ea.num) (eb.num)))),(0,.agg (ea.cells).toArray),(1,.agg (eb.cells).toArray),(2,.pointer (some ⟨b1,0,none⟩)),(3,.pointer (some ⟨b4,0,none⟩)),(4,.bool false)] (fun hJ1=>?elA1) (fun a hF=>?flA1)
 case elA1 =>
  rcases tf (aI .neq (ea.op) (eb.op)) with hg1 | hg1
  ·refine aJ hF O O O O (ak hg1) ae _ (yf 1 O NE O gZ O) (fun a hF=>?_)
   refine aJ hF O O O O (ak hg1) ae _ (aU O hA6.q O 1 O O jZ) (fun a hF=>?_)
   refine aJ hF O O O O (ak hg1) ae _ (yf 1 O NE O gZ O) (fun a hF=>?_)
   refine aJ hF O O O O (ak hg1) ae _ (aU O hA6.q O 0 O O jZ) (fun a hF=>?_)
   refine aJ hF O O O O (ak hg1) ae _ (aF O O O O O) (fun a hF=>?_)
   refine vR hF<|vV O (bu hg1 rfl rfl rfl) fun a hF=>?_
   exact hJ1 _ ((hF.keep [17,0,1,2,3,4] (F':=[(17,_),(0,_),(1,_),(2,_),(3,_),(4,_)]) O).bool (by rw [hg1]; rfl))
  ·refine az hF O O O O O (aB hg1) ae (fun a hF=>?_)
   refine az hF O O O O O (aB hg1) ae (fun a hF=>?_)
   refine az hF O O O O O (aB hg1) ae (fun a hF=>?_)
   refine az hF O O O O O (aB hg1) ae (fun a hF=>?_)
   refine az hF O O O O O (aB hg1) ae (fun a hF=>?_)
   refine vR hF<|vV O (bF hg1 rfl rfl rfl) fun a hF=>?_
   exact hJ1 _ ((hF.keep [17,0,1,2,3,4] (F':=[(17,_),(0,_),(1,_),(2,_),(3,_),(4,_)]) O).bool (by rw [hg1]; rfl))
 refine vR hF<|vX O fun a hF=>?_
 refine bK (l2:=?lA2) hF [(24,.bool (((aI .neq (ea.op) (eb.op)) || (aI .neq (ea.num) (eb.num))) || (aI .neq (ea.clk) (eb.clk)))),(0,.agg (ea.cells).toArray),(1,.agg (eb.cells).toArray),(2,.pointer (some ⟨b1,0,none⟩)),(3,.pointer (some ⟨b4,0,none⟩)),(4,.bool false)] (fun hJ2=>?elA2) (fun a hF=>?flA2)
 case elA2 =>
  rcases tf ((aI .neq (ea.op) (eb.op)) || (aI .neq (ea.num) (eb.num))) with hg2 | hg2
  ·refine aJ hF O O O O (ak hg2) ae _ (yf 2 O NE O gZ O) (fun a hF=>?_)
   refine aJ hF O O O O (ak hg2) ae _ (aU O hA6.q O 1 O O jZ) (fun a hF=>?_)
   refine aJ hF O O O O (ak hg2) ae _ (yf 2 O NE O gZ O) (fun a hF=>?_)
   refine aJ hF O O O O (ak hg2) ae _ (aU O hA6.q O 0 O O jZ) (fun a hF=>?_)
   refine aJ hF O O O O (ak hg2) ae _ (aF O O O O O) (fun a hF=>?_)
   refine vR hF<|vV O (bu hg2 rfl rfl rfl) fun a hF=>?_
   exact hJ2 _ ((hF.keep [24,0,1,2,3,4] (F':=[(24,_),(0,_),(1,_),(2,_),(3,_),(4,_)]) O).bool (by rw [hg2]; rfl))
  ·refine az hF O O O O O (aB hg2) ae (fun a hF=>?_)
   refine az hF O O O O O (aB hg2) ae (fun a hF=>?_)
   refine az hF O O O O O (aB hg2) ae (fun a hF=>?_)
   refine az hF O O O O O (aB hg2) ae (fun a hF=>?_)
   refine az hF O O O O O (aB hg2) ae (fun a hF=>?_)
   refine vR hF<|vV O (bF hg2 rfl rfl rfl) fun a hF=>?_
   exact hJ2 _ ((hF.keep [24,0,1,2,3,4] (F':=[(24,_),(0,_),(1,_),(2,_),(3,_),(4,_)]) O).bool (by rw [hg2]; rfl))
 refine vR hF<|vX O fun a hF=>?_
 refine bK (l2:=?lA3) hF [(31,.bool ((((aI .neq (ea.op) (eb.op)) || (aI .neq (ea.num) (eb.num))) || (aI .neq (ea.clk) (eb.clk))) || (bJ .neq ea.typ eb.typ))),(0,.agg (ea.cells).toArray),(1,.agg (eb.cells).toArray),(2,.pointer (some ⟨b1,0,none⟩)),(3,.pointer (some ⟨b4,0,none⟩)),(4,.bool false)] (fun hJ3=>?elA3) (fun a hF=>?flA3)
 case elA3 =>
  rcases tf (((aI .neq (ea.op) (eb.op)) || (aI .neq (ea.num) (eb.num))) || (aI .neq (ea.clk) (eb.clk))) with hg3 | hg3
  ·refine aJ hF O O O O (ak hg3) ae _ (yf 3 O NE O uC O) (fun a hF=>?_)
   refine aJ hF O O O O (ak hg3) ae _ (aU O hA6.q O 1 O O uV) (fun a hF=>?_)
   refine aJ hF O O O O (ak hg3) ae _ (yf 3 O NE O uC O) (fun a hF=>?_)
   refine aJ hF O O O O (ak hg3) ae _ (aU O hA6.q O 0 O O uV) (fun a hF=>?_)
   refine aJ hF O O O O (ak hg3) ae _ (fA O O O O O) (fun a hF=>?_)
   refine vR hF<|vV O (bu hg3 rfl rfl rfl) fun a hF=>?_
   exact hJ3 _ ((hF.keep [31,0,1,2,3,4] (F':=[(31,_),(0,_),(1,_),(2,_),(3,_),(4,_)]) O).bool (by rw [hg3]; rfl))
  ·refine az hF O O O O O (aB hg3) ae (fun a hF=>?_)
   refine az hF O O O O O (aB hg3) ae (fun a hF=>?_)
   refine az hF O O O O O (aB hg3) ae (fun a hF=>?_)
   refine az hF O O O O O (aB hg3) ae (fun a hF=>?_)
   refine az hF O O O O O (aB hg3) ae (fun a hF=>?_)
   refine vR hF<|vV O (bF hg3 rfl rfl rfl) fun a hF=>?_
   exact hJ3 _ ((hF.keep [31,0,1,2,3,4] (F':=[(31,_),(0,_),(1,_),(2,_),(3,_),(4,_)]) O).bool (by rw [hg3]; rfl))
 refine vR hF<|vX O fun a hF=>?_
 refine bK (l2:=?lA4) hF [(38,.bool (((((aI .neq (ea.op) (eb.op)) || (aI .neq (ea.num) (eb.num))) || (aI .neq (ea.clk) (eb.clk))) || (bJ .neq ea.typ eb.typ)) || (bJ .neq ea.cas eb.cas))),(0,.agg (ea.cells).toArray),(1,.agg (eb.cells).toArray),(2,.pointer (some ⟨b1,0,none⟩)),(3,.pointer (some ⟨b4,0,none⟩)),(4,.bool false)] (fun hJ4=>?elA4) (fun a hF=>?flA4)
 case elA4 =>
  rcases tf ((((aI .neq (ea.op) (eb.op)) || (aI .neq (ea.num) (eb.num))) || (aI .neq (ea.clk) (eb.clk))) || (bJ .neq ea.typ eb.typ)) with hg4 | hg4
  ·refine aJ hF O O O O (ak hg4) ae _ (yf 4 O NE O uC O) (fun a hF=>?_)
   refine aJ hF O O O O (ak hg4) ae _ (aU O hA6.q O 1 O O uV) (fun a hF=>?_)
   refine aJ hF O O O O (ak hg4) ae _ (yf 4 O NE O uC O) (fun a hF=>?_)
   refine aJ hF O O O O (ak hg4) ae _ (aU O hA6.q O 0 O O uV) (fun a hF=>?_)
   refine aJ hF O O O O (ak hg4) ae _ (fA O O O O O) (fun a hF=>?_)
   refine vR hF<|vV O (bu hg4 rfl rfl rfl) fun a hF=>?_
   exact hJ4 _ ((hF.keep [38,0,1,2,3,4] (F':=[(38,_),(0,_),(1,_),(2,_),(3,_),(4,_)]) O).bool (by rw [hg4]; rfl))
  ·refine az hF O O O O O (aB hg4) ae (fun a hF=>?_)
   refine az hF O O O O O (aB hg4) ae (fun a hF=>?_)
   refine az hF O O O O O (aB hg4) ae (fun a hF=>?_)
   refine az hF O O O O O (aB hg4) ae (fun a hF=>?_)
   refine az hF O O O O O (aB hg4) ae (fun a hF=>?_)
   refine vR hF<|vV O (bF hg4 rfl rfl rfl) fun a hF=>?_
   exact hJ4 _ ((hF.keep [38,0,1,2,3,4] (F':=[(38,_),(0,_),(1,_),(2,_),(3,_),(4,_)]) O).bool (by rw [hg4]; rfl))
 refine vR hF<|vX O fun a hF=>?_
 refine bK (l2:=?lA5) hF [(45,.bool ((((((aI .neq (ea.op) (eb.op)) || (aI .neq (ea.num) (eb.num))) || (aI .neq (ea.clk) (eb.clk))) || (bJ .neq ea.typ eb.typ)) || (bJ .neq ea.cas eb.cas)) || (bJ .neq ea.nam eb.nam))),(0,.agg (ea.cells).toArray),(1,.agg (eb.cells).toArray),(2,.pointer (some ⟨b1,0,none⟩)),(3,.pointer (some ⟨b4,0,none⟩)),(4,.bool false)] (fun hJ5=>?elA5) (fun a hF=>?flA5)
 case elA5 =>
  rcases tf (((((aI .neq (ea.op) (eb.op)) || (aI .neq (ea.num) (eb.num))) || (aI .neq (ea.clk) (eb.clk))) || (bJ .neq ea.typ eb.typ)) || (bJ .neq ea.cas eb.cas)) with hg5 | hg5
  ·refine aJ hF O O O O (ak hg5) ae _ (yf 5 O NE O uC O) (fun a hF=>?_)
   refine aJ hF O O O O (ak hg5) ae _ (aU O hA6.q O 1 O O uV) (fun a hF=>?_)
   refine aJ hF O O O O (ak hg5) ae _ (yf 5 O NE O uC O) (fun a hF=>?_)
   refine aJ hF O O O O (ak hg5) ae _ (aU O hA6.q O 0 O O uV) (fun a hF=>?_)
   refine aJ hF O O O O (ak hg5) ae _ (fA O O O O O) (fun a hF=>?_)
   refine vR hF<|vV O (bu hg5 rfl rfl rfl) fun a hF=>?_
   exact hJ5 _ ((hF.keep [45,0,1,2,3,4] (F':=[(45,_),(0,_),(1,_),(2,_),(3,_),(4,_)]) O).bool (by rw [hg5]; rfl))
  ·refine az hF O O O O O (aB hg5) ae (fun a hF=>?_)
   refine az hF O O O O O (aB hg5) ae (fun a hF=>?_)
   refine az hF O O O O O (aB hg5) ae (fun a hF=>?_)
   refine az hF O O O O O (aB hg5) ae (fun a hF=>?_)
   refine az hF O O O O O (aB hg5) ae (fun a hF=>?_)
   refine vR hF<|vV O (bF hg5 rfl rfl rfl) fun a hF=>?_
   exact hJ5 _ ((hF.keep [45,0,1,2,3,4] (F':=[(45,_),(0,_),(1,_),(2,_),(3,_),(4,_)]) O).bool (by rw [hg5]; rfl))
 refine vR hF<|vX O fun a hF=>?_
 refine bK (l2:=?lA6) hF [(52,.bool (((((((aI .neq (ea.op) (eb.op)) || (aI .neq (ea.num) (eb.num))) || (aI .neq (ea.clk) (eb.clk))) || (bJ .neq ea.typ eb.typ)) || (bJ .neq ea.cas eb.cas)) || (bJ .neq ea.nam eb.nam)) || (!(decide (ea.eff=eb.eff))))),(0,.agg (ea.cells).toArray),(1,.agg (eb.cells).toArray),(2,.pointer (some ⟨b1,0,none⟩)),(3,.pointer (some ⟨b4,0,none⟩)),(4,.bool false)] (fun hJ6=>?elA6) (fun a hF=>?flA6)
 case elA6 =>
  rcases tf ((((((aI .neq (ea.op) (eb.op)) || (aI .neq (ea.num) (eb.num))) || (aI .neq (ea.clk) (eb.clk))) || (bJ .neq ea.typ eb.typ)) || (bJ .neq ea.cas eb.cas)) || (bJ .neq ea.nam eb.nam)) with hg6 | hg6
  ·refine aJ hF O O O O (ak hg6) ae _ (yf 12 rfl NE O zV O) (fun a hF=>?_)
   refine aJ hF O O O O (ak hg6) ae _ (cZ (new:=dc ea.eff) rfl hA6.q O 1 O Hm (by rw [List.length_append,aW,he32]; exact Nat.le_of_ble_eq_true rfl) (by show (dc ea.eff).take 32=_; exact Ny (by rw [aW,he32]; exact Nv _))) (fun a hF=>?_)
   refine aJ hF O O O O (ak hg6) ae _ (yf 12 rfl NE O zV O) (fun a hF=>?_)
   refine aJ hF O O O O (ak hg6) ae _ (cZ (new:=dc eb.eff) rfl hA6.q O 0 O Hm (by rw [List.length_append,aW,hb32]; exact Nat.le_of_ble_eq_true rfl) (by show (dc eb.eff).take 32=_; exact Ny (by rw [aW,hb32]; exact Nv _))) (fun a hF=>?_)
   refine aJ hF O O O O (ak hg6) ae _ (KR (X:=ea.eff) (Y:=eb.eff) rfl NK NI uD af rfl rfl he32 hb32 rfl) (fun a hF=>?_)
   refine vR hF<|vV O (bu hg6 rfl rfl rfl) fun a hF=>?_
   exact hJ6 _ ((hF.keep [52,0,1,2,3,4] (F':=[(52,_),(0,_),(1,_),(2,_),(3,_),(4,_)]) O).bool (by rw [hg6]; rfl))
  ·refine az hF O O O O O (aB hg6) ae (fun a hF=>?_)
   refine az hF O O O O O (aB hg6) ae (fun a hF=>?_)
   refine az hF O O O O O (aB hg6) ae (fun a hF=>?_)
   refine az hF O O O O O (aB hg6) ae (fun a hF=>?_)
   refine az hF O O O O O (aB hg6) ae (fun a hF=>?_)
   refine vR hF<|vV O (bF hg6 rfl rfl rfl) fun a hF=>?_
   exact hJ6 _ ((hF.keep [52,0,1,2,3,4] (F':=[(52,_),(0,_),(1,_),(2,_),(3,_),(4,_)]) O).bool (by rw [hg6]; rfl))
 refine aH<|hK3 _ _ ?_
 rcases tf (((((((aI .neq (ea.op) (eb.op)) || (aI .neq (ea.num) (eb.num))) || (aI .neq (ea.clk) (eb.clk))) || (bJ .neq ea.typ eb.typ)) || (bJ .neq ea.cas eb.cas)) || (bJ .neq ea.nam eb.nam)) || (!(decide (ea.eff=eb.eff)))) with h1 | h1
 ·refine au hF O h1 ?_
  have hd:=hd_ok h1
  apply wp_skip
  refine hK2 _ _ ?_
  apply wp_seq_k; intro K4 hK4
  refine wS hF fun K5 hK5=>vV O (yf 6 O NE O nD O)<|vV O (cZ (new:=[.int .i64 ea.v.v.k,.int .i64 ea.v.v.n,aj ea.v.v.t,.slice ea.v.sA ea.v.v.s.length ea.v.sC]) O hA6.q O 1 O Ho (by rw [List.length_append]; exact Nat.le_add_right_of_le ai) rfl) fun a hF=>?_
  refine vR hF<|vV O (yf 6 O NE O nD O)<|vV O (cZ (new:=[.int .i64 eb.v.v.k,.int .i64 eb.v.v.n,aj eb.v.v.t,.slice eb.v.sA eb.v.v.s.length eb.v.sC]) O hA6.q O 0 O Ho (by rw [List.length_append]; exact Nat.le_add_right_of_le ai) rfl) fun a hF=>?_
  refine ax O (fun K hK=>ay hF O ae Bg rfl rfl ?_)
  with_reducible refine (lS ea.v eb.v _ hV.v (List.Subset.trans hG (bM (bM (dR)))) hW.v (List.Subset.trans hH (bM (bM (dR)))) hA6).mono ?_
  rintro e' w7 ⟨rfl,hA8⟩
  refine ⟨_,rfl,fun a hF=>hK _ _ ?_⟩
  replace hA8:Hp w0 ([row b4 31 ([.int .i64 eb.op,.int .i64 eb.num,.int .i64 eb.clk,aj eb.typ,aj eb.cas,aj eb.nam,.int .i64 eb.v.v.k,.int .i64 eb.v.v.n,aj eb.v.v.t,.slice eb.v.sA eb.v.v.s.length eb.v.sC,.slice eb.aA eb.args.length eb.aC,.slice eb.bA eb.src.length eb.bC]++dc eb.eff)]::[row b1 31 ([.int .i64 ea.op,.int .i64 ea.num,.int .i64 ea.clk,aj ea.typ,aj ea.cas,aj ea.nam,.int .i64 ea.v.v.k,.int .i64 ea.v.v.n,aj ea.v.v.t,.slice ea.v.sA ea.v.v.s.length ea.v.sC,.slice ea.aA ea.args.length ea.aC,.slice ea.bA ea.src.length ea.bC]++dc ea.eff)]::R) w7:=hA8
  refine vR hF<|vV O (dm O O O)<|vX O fun a hF=>?_
  refine wR (l2:=?lA7) hF (fun x=>Hp w0 ([row b4 31 ([.int .i64 eb.op,.int .i64 eb.num,.int .i64 eb.clk,aj eb.typ,aj eb.cas,aj eb.nam,.int .i64 eb.v.v.k,.int .i64 eb.v.v.n,aj eb.v.v.t,.slice eb.v.sA eb.v.v.s.length eb.v.sC,.slice eb.aA eb.args.length eb.aC,.slice eb.bA eb.src.length eb.bC]++dc eb.eff)]::[row b1 31 ([.int .i64 ea.op,.int .i64 ea.num,.int .i64 ea.clk,aj ea.typ,aj ea.cas,aj ea.nam,.int .i64 ea.v.v.k,.int .i64 ea.v.v.n,aj ea.v.v.t,.slice ea.v.sA ea.v.v.s.length ea.v.sC,.slice ea.aA ea.args.length ea.aC,.slice ea.bA ea.src.length ea.bC]++dc ea.eff)]::R) x) [(66,.bool ((!(decide (ea.v.v=eb.v.v))) || (!(decide (ea.src=eb.src))))),(0,.agg (ea.cells).toArray),(1,.agg (eb.cells).toArray),(2,.pointer (some ⟨b1,0,none⟩)),(3,.pointer (some ⟨b4,0,none⟩)),(4,.bool false),(52,.bool (((((((aI .neq (ea.op) (eb.op)) || (aI .neq (ea.num) (eb.num))) || (aI .neq (ea.clk) (eb.clk))) || (bJ .neq ea.typ eb.typ)) || (bJ .neq ea.cas eb.cas)) || (bJ .neq ea.nam eb.nam)) || (!(decide (ea.eff=eb.eff)))))] (fun hJ7=>?elA7) (fun a w9 hF hA10=>?flA7)
  case elA7 =>
   rcases tf (!(decide (ea.v.v=eb.v.v))) with hg7 | hg7
   ·refine aJ hF O O O O (ak hg7) ae _ (yf 11 rfl NE O dP O) (fun a hF=>?_)
    refine aJ hF O O O O (ak hg7) ae _ (aU O hA8.q O 1 O O jr) (fun a hF=>?_)
    refine aJ hF O O O O (ak hg7) ae _ (yf 11 rfl NE O dP O) (fun a hF=>?_)
    refine aJ hF O O O O (ak hg7) ae _ (aU O hA8.q O 0 O O jr) (fun a hF=>?_)
    refine gI hF O O O (ak hg7) (fun K hK=>ay hF O ae Ji rfl rfl ?_)
    with_reducible refine (EX _ (hV.src.mono (List.Subset.trans hG (bM (bM (dR))))) (hW.src.mono (List.Subset.trans hH (bM (bM (dR))))) hsn hA8).mono ?_
    rintro e' w11 ⟨rfl,hA12⟩
    refine ⟨_,rfl,fun a hF=>hK _ _ ?_⟩
    replace hA12:Hp w0 ([row b4 31 ([.int .i64 eb.op,.int .i64 eb.num,.int .i64 eb.clk,aj eb.typ,aj eb.cas,aj eb.nam,.int .i64 eb.v.v.k,.int .i64 eb.v.v.n,aj eb.v.v.t,.slice eb.v.sA eb.v.v.s.length eb.v.sC,.slice eb.aA eb.args.length eb.aC,.slice eb.bA eb.src.length eb.bC]++dc eb.eff)]::[row b1 31 ([.int .i64 ea.op,.int .i64 ea.num,.int .i64 ea.clk,aj ea.typ,aj ea.cas,aj ea.nam,.int .i64 ea.v.v.k,.int .i64 ea.v.v.n,aj ea.v.v.t,.slice ea.v.sA ea.v.v.s.length ea.v.sC,.slice ea.aA ea.args.length ea.aC,.slice ea.bA ea.src.length ea.bC]++dc ea.eff)]::R) w11:=hA12
    refine aJ hF O O O O (ak hg7) ae _ (dm O O O) (fun a hF=>?_)
    refine vR hF<|vV O (bu hg7 rfl rfl rfl) fun a hF=>?_
    exact hJ7 _ _ ((hF.keep [66,0,1,2,3,4,52] (F':=[(66,_),(0,_),(1,_),(2,_),(3,_),(4,_),(52,_)]) O).bool (by rw [hg7]; rfl)) hA12
   ·refine az hF O O O O O (aB hg7) ae (fun a hF=>?_)
    refine az hF O O O O O (aB hg7) ae (fun a hF=>?_)
    refine az hF O O O O O (aB hg7) ae (fun a hF=>?_)
    refine az hF O O O O O (aB hg7) ae (fun a hF=>?_)
    refine az hF O O O O O (aB hg7) ae (fun a hF=>?_)
    refine az hF O O O O O (aB hg7) ae (fun a hF=>?_)
    refine vR hF<|vV O (bF hg7 rfl rfl rfl) fun a hF=>?_
    exact hJ7 _ _ ((hF.keep [66,0,1,2,3,4,52] (F':=[(66,_),(0,_),(1,_),(2,_),(3,_),(4,_),(52,_)]) O).bool (by rw [hg7]; rfl)) hA8
  replace hA10:Hp w0 ([row b4 31 ([.int .i64 eb.op,.int .i64 eb.num,.int .i64 eb.clk,aj eb.typ,aj eb.cas,aj eb.nam,.int .i64 eb.v.v.k,.int .i64 eb.v.v.n,aj eb.v.v.t,.slice eb.v.sA eb.v.v.s.length eb.v.sC,.slice eb.aA eb.args.length eb.aC,.slice eb.bA eb.src.length eb.bC]++dc eb.eff)]::[row b1 31 ([.int .i64 ea.op,.int .i64 ea.num,.int .i64 ea.clk,aj ea.typ,aj ea.cas,aj ea.nam,.int .i64 ea.v.v.k,.int .i64 ea.v.v.n,aj ea.v.v.t,.slice ea.v.sA ea.v.v.s.length ea.v.sC,.slice ea.aA ea.args.length ea.aC,.slice ea.bA ea.src.length ea.bC]++dc ea.eff)]::R) w9:=hA10
  refine vR hF<|vX O fun a hF=>?_
  refine bK (l2:=?lA8) hF [(75,.bool (((!(decide (ea.v.v=eb.v.v))) || (!(decide (ea.src=eb.src)))) || (aI .neq (ea.args.length) (eb.args.length)))),(0,.agg (ea.cells).toArray),(1,.agg (eb.cells).toArray),(2,.pointer (some ⟨b1,0,none⟩)),(3,.pointer (some ⟨b4,0,none⟩)),(4,.bool false),(52,.bool (((((((aI .neq (ea.op) (eb.op)) || (aI .neq (ea.num) (eb.num))) || (aI .neq (ea.clk) (eb.clk))) || (bJ .neq ea.typ eb.typ)) || (bJ .neq ea.cas eb.cas)) || (bJ .neq ea.nam eb.nam)) || (!(decide (ea.eff=eb.eff)))))] (fun hJ8=>?elA8) (fun a hF=>?flA8)
  case elA8 =>
   rcases tf ((!(decide (ea.v.v=eb.v.v))) || (!(decide (ea.src=eb.src)))) with hg8 | hg8
   ·refine aJ hF O O O O (ak hg8) ae _ (yf 10 rfl NE O uF O) (fun a hF=>?_)
    refine aJ hF O O O O (ak hg8) ae _ (aU O hA10.q O 1 O O uY) (fun a hF=>?_)
    refine aJ hF O O O O (ak hg8) ae _ (aT O NG O O) (fun a hF=>?_)
    refine aJ hF O O O O (ak hg8) ae _ (yf 10 rfl NE O uF O) (fun a hF=>?_)
    refine aJ hF O O O O (ak hg8) ae _ (aU O hA10.q O 0 O O uY) (fun a hF=>?_)
    refine aJ hF O O O O (ak hg8) ae _ (aT O NG O O) (fun a hF=>?_)
    refine aJ hF O O O O (ak hg8) ae _ (aF O O O O O) (fun a hF=>?_)
    refine vR hF<|vV O (bu hg8 rfl rfl rfl) fun a hF=>?_
    exact hJ8 _ ((hF.keep [75,0,1,2,3,4,52] (F':=[(75,_),(0,_),(1,_),(2,_),(3,_),(4,_),(52,_)]) O).bool (by rw [hg8]; rfl))
   ·refine az hF O O O O O (aB hg8) ae (fun a hF=>?_)
    refine az hF O O O O O (aB hg8) ae (fun a hF=>?_)
    refine az hF O O O O O (aB hg8) ae (fun a hF=>?_)
    refine az hF O O O O O (aB hg8) ae (fun a hF=>?_)
    refine az hF O O O O O (aB hg8) ae (fun a hF=>?_)
    refine az hF O O O O O (aB hg8) ae (fun a hF=>?_)
    refine az hF O O O O O (aB hg8) ae (fun a hF=>?_)
    refine vR hF<|vV O (bF hg8 rfl rfl rfl) fun a hF=>?_
    exact hJ8 _ ((hF.keep [75,0,1,2,3,4,52] (F':=[(75,_),(0,_),(1,_),(2,_),(3,_),(4,_),(52,_)]) O).bool (by rw [hg8]; rfl))
  refine aH<|hK5 _ _ ?_
  rcases tf (((!(decide (ea.v.v=eb.v.v))) || (!(decide (ea.src=eb.src)))) || (aI .neq (ea.args.length) (eb.args.length))) with h2 | h2
  ·refine au hF O h2 ?_
   have hl:=LJ h2
   have hll:ea.args.length=eb.args.length:=hl.2.2
   apply wp_skip
   refine hK4 _ _ ?_
   apply wp_seq_k; intro K6 hK6
   refine wS hF fun K7 hK7=>vX O<|vE hK7<|wBk fun a hF=>?_
   refine bH (G:=Nat) (fun i a x=>i≤ea.args.length∧((ea.args.take i).map VA.v=(eb.args.take i).map VA.v)∧Fr 95 [(5,.int .i64 (i:Int)),(2,.pointer (some ⟨b1,0,none⟩)),(3,.pointer (some ⟨b4,0,none⟩))] a∧Hp w0 ([row b4 31 ([.int .i64 eb.op,.int .i64 eb.num,.int .i64 eb.clk,aj eb.typ,aj eb.cas,aj eb.nam,.int .i64 eb.v.v.k,.int .i64 eb.v.v.n,aj eb.v.v.t,.slice eb.v.sA eb.v.v.s.length eb.v.sC,.slice eb.aA eb.args.length eb.aC,.slice eb.bA eb.src.length eb.bC]++dc eb.eff)]::[row b1 31 ([.int .i64 ea.op,.int .i64 ea.num,.int .i64 ea.clk,aj ea.typ,aj ea.cas,aj ea.nam,.int .i64 ea.v.v.k,.int .i64 ea.v.v.n,aj ea.v.v.t,.slice ea.v.sA ea.v.v.s.length ea.v.sC,.slice ea.aA ea.args.length ea.aC,.slice ea.bA ea.src.length ea.bC]++dc ea.eff)]::R) x) (fun i=>ea.args.length-i) 0 (⟨Nl _,rfl,hF.keep [5,2,3] rfl,hA10⟩) ?_
   clear hF
   rintro i a w14 ⟨hi,hq,hF,hA13⟩
   apply wp_seq_k; intro K8 hK8
   refine wS hF fun K9 hK9=>vX O<|vV O (yf 10 rfl NE O uF O)<|vV O (aU O hA13.q O 1 O O uY)<|vV O (aT O NG O O)<|vV O (aF O O O O O)<|vE hK9 fun a hF=>?_
   by_cases hlt:i<ea.args.length
   ·refine aG hF O (dF ag) ?_
    obtain ⟨va,hpea⟩:∃ q,ea.args[i]? = some q:=⟨_,List.getElem?_eq_getElem ag⟩
    obtain ⟨hatea,hleea⟩:=Go.Dk.flat_at (z:=4) (Ws:=ea.args.map VA.cells) (V:=va.cells) (i:=i) (fun V hV=>by obtain ⟨u,_,rfl⟩:=List.mem_map.1 hV; rfl) (by rw [List.getElem?_map,hpea]; rfl)
    obtain ⟨ba,oa,hsea,hcea⟩:=hV.rc.ne (i:=i*4) (by have:=lY ea.args; omega)
    rw [hsea] at hA13
    have hva:=hV.args va (List.mem_of_getElem? hpea)
    obtain ⟨vb,hpeb⟩:∃ q,eb.args[i]? = some q:=⟨_,List.getElem?_eq_getElem ag⟩
    obtain ⟨hateb,hleeb⟩:=Go.Dk.flat_at (z:=4) (Ws:=eb.args.map VA.cells) (V:=vb.cells) (i:=i) (fun V hV=>by obtain ⟨u,_,rfl⟩:=List.mem_map.1 hV; rfl) (by rw [List.getElem?_map,hpeb]; rfl)
    obtain ⟨bb,ob,hseb,hceb⟩:=hW.rc.ne (i:=i*4) (by have:=lY eb.args; omega)
    rw [hseb] at hA13
    have hvb:=hW.args vb (List.mem_of_getElem? hpeb)
    apply wp_skip
    refine hK8 _ _ ?_
    apply wp_seq_k; intro K10 hK10
    apply wp_block
    apply wp_seq_k; intro K11 hK11
    refine aQ 11 [10,11] [0,1,2,3,4,5,6,7,8,9,10,11] _ af af (Hq.drew hA13.q) ?_
    have hA15:=Hl.drew hA13
    refine pR hF<|pW O O (fun _=>yf 10 rfl NE O uF O)<|pV O O (fun x hx=>aU O hx O 1 O O uY)<|pX O O<|pW O O (fun _=>aY O NG nD O O i rfl ag rfl)<|pV O O (fun x hx=>dK (new:=va.cells) rfl (Hq.sub hx (List.Subset.trans hG (bM (bM (dR))))) O hcea (i*4) hleea rfl hatea Ho)<|pW O O (fun _=>yf 10 rfl NE O uF O)<|pV O O (fun x hx=>aU O hx O 0 O O uY)<|pX O O<|pW O O (fun _=>aY O NG nD O O i rfl ag rfl)<|pV O O (fun x hx=>dK (new:=vb.cells) rfl (Hq.sub hx (List.Subset.trans hH (bM (bM (dR))))) O hceb (i*4) hleeb rfl hateb Ho) fun a hF=>?_
    refine fG O O O (fun K hK=>ay hF O ae Bg rfl rfl ?_)
    with_reducible refine (lS va vb _ hva (List.Subset.trans hG (bM (bM (dR)))) hvb (List.Subset.trans hH (bM (bM (dR)))) hA15).mono ?_
    rintro e' w16 ⟨rfl,hA17⟩
    refine ⟨_,rfl,fun a hF=>hK _ _ (fun _=>?_) ?_⟩
    ·exact hA17.q
    replace hA17:Hp w0 ([row b4 31 ([.int .i64 eb.op,.int .i64 eb.num,.int .i64 eb.clk,aj eb.typ,aj eb.cas,aj eb.nam,.int .i64 eb.v.v.k,.int .i64 eb.v.v.n,aj eb.v.v.t,.slice eb.v.sA eb.v.v.s.length eb.v.sC,.slice (some ⟨bb,ob,none⟩) eb.args.length eb.aC,.slice eb.bA eb.src.length eb.bC]++dc eb.eff)]::[row b1 31 ([.int .i64 ea.op,.int .i64 ea.num,.int .i64 ea.clk,aj ea.typ,aj ea.cas,aj ea.nam,.int .i64 ea.v.v.k,.int .i64 ea.v.v.n,aj ea.v.v.t,.slice ea.v.sA ea.v.v.s.length ea.v.sC,.slice (some ⟨ba,oa,none⟩) ea.args.length ea.aC,.slice ea.bA ea.src.length ea.bC]++dc ea.eff)]::R) w16:=hA17
    refine dG hF O O O O ae _ (dm O O O) (fun h=>absurd h ae) (fun a hF=>?_)
    refine bI ?_
    refine hK11 _ _ ?_
    rcases tf (decide (va.v=vb.v)) with h3 | h3
    ·refine aG hF O (by rw [h3]; rfl) ?_
     refine wS hF fun K12 hK12=>vX O<|vE hK12 fun a hF=>?_
     apply wp_ret
     simp only [Exit.then,Exit.inBlock]
     refine aO hF Tryz.results22 O ?_
     have hA18:Hp w0 (R) w16:=hpS 2 [] [0,1] hA17 rfl
     exact ⟨by rw [KN hpea hpeb (of_decide_eq_false h3)],hA18⟩
    ·refine au hF O (by rw [h3]; rfl) ?_
     apply wp_skip
     refine hK10 _ _ ?_
     refine wp_region_lit ?_
     refine vR hF<|vX O<|vV O (bT O O O (Np _ ag))<|vX O fun a hF=>?_
     refine aH ?_
     rw [← hseb,← hsea] at hA17
     exact ⟨i+1,ag,ag,Gv hpea hpeb hq (of_decide_eq_true h3),hF.keep [5,2,3] rfl,hA17⟩
   ·refine au hF O (dE ag) ?_
    obtain rfl:i=ea.args.length:=by omega
    rw [List.take_length,hll,List.take_length] at hq
    apply wp_exit
    refine hK6 _ _ ?_
    refine wS hF fun K13 hK13=>vX O<|vE hK13 fun a hF=>?_
    apply wp_ret
    refine aO hF Tryz.results22 O ?_
    have hA19:Hp w0 (R) w14:=hpS 2 [] [0,1] hA13 rfl
    exact ⟨by rw [KP hd hl.1 hl.2.1 hq],hA19⟩
  ·refine aG hF O h2 ?_
   refine wS hF fun K14 hK14=>vX O<|vE hK14 fun a hF=>?_
   apply wp_ret
   simp only [Exit.then]
   refine aO hF Tryz.results22 O ?_
   have hA20:Hp w0 (R) w9:=hpS 2 [] [0,1] hA10 rfl
   exact ⟨by rw [LK h2],hA20⟩
 ·refine aG hF O h1 ?_
  refine wS hF fun K15 hK15=>vX O<|vE hK15 fun a hF=>?_
  apply wp_ret
  simp only [Exit.then]
  refine aO hF Tryz.results22 O ?_
  have hA21:Hp w0 (R) w5:=hpS 2 [] [0,1] hA6 rfl
  exact ⟨by rw [LY h1],hA21⟩
end Go.Proofs.YtepbmdlgdaedpaaGreatDoor
