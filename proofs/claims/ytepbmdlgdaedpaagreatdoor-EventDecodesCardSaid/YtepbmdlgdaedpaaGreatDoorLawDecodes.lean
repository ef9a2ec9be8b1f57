/- EventDecodes walked. -/
import Derived.Test.YtepbmdlgdaedpaaGreatDoorR5
import Derived.Test.YtepbmdlgdaedpaaGreatDoorSp
/- EventDecodes walked. -/
set_option maxRecDepth 100000
set_option maxHeartbeats 8000000
namespace Go.Proofs.YtepbmdlgdaedpaaGreatDoor
open Go.RowKit Go.Dk
theorem Eo:aQ Tryz.prog 15:=⟨_,Tryz.func15,af,af⟩
theorem Ej:aQ Tryz.prog 17:=⟨_,Tryz.func17,af,af⟩
theorem qB:aQ Tryz.prog 18:=⟨_,Tryz.func18,af,af⟩
theorem wW:aQ Tryz.prog 19:=⟨_,Tryz.func19,af,af⟩
theorem Eg:aQ Tryz.prog 22:=⟨_,Tryz.func22,af,af⟩
theorem Ee:aQ Tryz.prog 65:=⟨_,Tryz.func65,af,af⟩
theorem Ec:aQ Tryz.prog 71:=⟨_,Tryz.func71,af,af⟩
theorem oZ {cs:List Value} {k:Nat} {u:Value} (h:k<cs.length):splice cs k [u]=cs.set k u:=by
 unfold splice
 rw [List.set_eq_take_append_cons_drop,if_pos h,List.append_assoc]
 rfl
theorem H8 {e:TypeId} {X:Seg} {v:Value} {m i:Nat} {W:List Value} (h:Buf e 1 X v m W) (hi:i<m) (u:Value):∃ g B Z c,v= .slice (some ⟨g,B.length,none⟩) m c∧X=[row g e (B++W++Z)]∧m≤c∧Buf e 1 [row g e ((B++W++Z).set (B.length+i) u)] (.slice (some ⟨g,B.length,none⟩) m c) m (W.set i u):=by
 obtain ⟨g,B,Z,c,hv,hX,hW,hle,hb⟩:=h.setRow (V:=[u]) hi rfl
 obtain ⟨A0,c0,hv0,hmc⟩:=h.slice
 rw [hv] at hv0
 injection hv0 with _ _ hcc
 rw [Nat.mul_one] at hb
 rw [oZ (by rw [List.length_append,List.length_append,hW]; omega),oZ (by rw [hW]; omega),hv] at hb
 exact ⟨g,B,Z,c,hv,hX,by rw [hcc]; exact hmc,hb⟩
theorem Jn (l:List UInt8) (k:Nat) (b:UInt8):(dc l).set k (.int .u8 (b.toNat:Int))=dc (l.set k b):=by
 unfold dc
 rw [List.map_set]
theorem Jq {B Z:List Value} {l:List UInt8} {k:Nat} (h:k<l.length):(B++dc l++Z)[B.length+k]? = some (.int .u8 ((bAt l k).toNat:Int)):=by
 rw [List.append_assoc,List.getElem?_append_right ag,Nat.add_sub_cancel_left,List.getElem?_append_left (by rw [aP]; exact h)]
 unfold dc
 rw [List.getElem?_map,kR h]
 rfl
theorem sh8 {s:Nat} (h:s≤7):IntKind.u8.wrap (1*2 ^ min ((s:Nat):Int).toNat IntKind.u8.bits)=((2 ^ s:Nat):Int):=by
 have h2:s=0∨s=1∨s=2∨s=3∨s=4∨s=5∨s=6∨s=7:=by omega
 rcases h2 with h | h | h | h | h | h | h | h <;> subst h <;> decide
theorem Kr (b:UInt8) {s:Nat} (h:s≤7):bits .xor .u8 ((b.toNat:Nat):Int) ((2 ^ s:Nat):Int)=((UInt8.ofNat (b.toNat ^^^ 2 ^ s)).toNat:Int):=by
 have h2:2 ^ s<256:=Nat.lt_of_le_of_lt (Nat.pow_le_pow_right ae h) ae
 rw [u8_xor_nat _ _ b.toNat_lt h2,UInt8.toNat_ofNat',Nat.mod_eq_of_lt (Nat.xor_lt_two_pow (n:=8) b.toNat_lt h2)]
theorem nT {x y m:List UInt8} (h:y.length=x.length):splice (dc (x++m)) 0 (dc y)=dc (y++m):=by
 unfold splice
 rw [List.take_zero,List.nil_append,Nat.zero_add,aP,h,bP,List.drop_left' (aP x),bP]
theorem uk (w0 w:World) (R:List Seg) (B:Option Addr) (l:List UInt8) (c:Nat) (hB:Rc w0 R B (dc l)) (hA:Hp w0 R w) (hl:l.length<140737488354000):Calls Tryz.prog 17 #[.slice B l.length c,.int .u8 219] w fun e w'=>∃ g,e= .returned (.slice (some ⟨g,0,none⟩) (l.length+80) (l.length+80))∧Hp w0 ([row g 5 (dc (l++List.replicate 80 219))]::R) w':=by
 have h:=qM w0 w R B l c 219 (by rw [← nI]; exact hB) (fun _ _=>rfl) rfl hA hl
 rw [← nI] at h
 exact h
theorem qN (w0 w:World) (R:List Seg) (B B2:Option Addr) (l:List UInt8) (c c2:Nat) (hB:Rc w0 R B (dc (l++List.replicate 80 219))) (hB2:Rc w0 R B2 (dc l)) (hc:l.length+80≤c) (hA:Hp w0 R w) (hl:l.length<140737488354000):Calls Tryz.prog 65 #[.slice B (l.length+80) c,.slice B2 l.length c2,.int .u8 219] w fun e w'=>e= .returned (.bool true)∧Hp w0 R w':=by
 have h:=qf w0 w R B B2 l c c2 219 (by rw [← nI]; exact hB) (by rw [← nI]; exact hB2) (fun _ _=>rfl) rfl hc hA hl
 exact h
theorem lN {w0:World} {R:List Seg} {G:List Seg} (A1:Option Addr) (c1:Nat) (A2:Option Addr) (raw:List UInt8) (c2:Nat) (w:World) (hT:oH w0) (hTR:yD w0) (h1:Rd w0 G A1 (raw++List.replicate 80 219)) (hc1:raw.length+80≤c1) (h2:Rd w0 G A2 raw) (hc2:raw.length≤c2) (hG:G⊆R) (hl:raw.length<140737488354000) (hA:Hp w0 R w):Calls Tryz.prog 18 #[.slice A1 (raw.length+80) c1,.slice A2 raw.length c2] w fun e w'=>e= .returned (.bool true)∧Hp w0 R w':=by
 have hRt:Rd w0 G A1 raw:=by have:=Rd.take h1 raw.length; rwa [List.take_left' rfl] at this
 refine aO Tryz.func18 O Tryz.ntmps18 ai (fun a hF=>?_)
 refine wS hF fun K1 hK1=>vX O<|vE hK1<|wT fun K2 hK2=>vX O<|vX O<|vV O (aZ O KY O O)<|vV O (eX O KY eG rfl (.none 0) (.some rfl rfl) (KW _) ag kC) fun a hF=>?_
 refine aH O (fun K hK=>aI hF O ae HY rfl rfl ?_)
 with_reducible refine (rY A1 raw c1 _ hT hRt (List.Subset.trans hG (dH)) ag hA).mono ?_
 rintro e' w1 ⟨ed,ZD1,rfl,hev1,hOk1,hA2⟩
 refine ⟨_,rfl,fun a hF=>hK _ _ ?_⟩
 replace hA2:Hp w0 (ZD1::R) w1:=hA2
 have hd32:ed.eff.length=32:=hOk1.i.2.2.2.2.2
 refine vR hF<|vX O<|vV O (aJ (v:= .agg (ed.cells).toArray) rfl rfl rfl)<|vV O (aJ (v:= .int .i64 ((lS raw:Nat):Int)) O O O) fun a hF=>?_
 refine aH O (fun K hK=>dw hF O ae rfl hA2 qw (fun b3 w4 a hb3 hF hA5=>hK _ _ ?_))
 refine aH O (fun K hK=>bg (new:=ed.cells) hF O O hA5 O O 0 O (by rw [List.length_append,aP,hd32]; rfl) (fun v hv=>gp (e:=ed) hv) gZ (fun w6 hA7=>hK _ _ ?_))
 replace hA7:Hp w0 ([row b3 31 ([.int .i64 ed.op,.int .i64 ed.num,.int .i64 ed.clk,ak ed.typ,ak ed.cas,ak ed.nam,.int .i64 ed.v.v.k,.int .i64 ed.v.v.n,ak ed.v.v.t,.slice ed.v.sA ed.v.v.s.length ed.v.sC,.slice ed.aA ed.args.length ed.aC,.slice ed.bA ed.src.length ed.bC]++dc ed.eff)]::ZD1::R) w6:=hA7
 refine vR hF<|vX O<|vE hK2<|wT fun K3 hK3=>vX O fun a hF=>?_
 refine aH O (fun K hK=>aI hF O ae Ec rfl rfl ?_)
 with_reducible refine (Ag A2 raw c2 _ hTR h2 hc2 (List.Subset.trans hG (bF (bF (dH)))) hl hA7).mono ?_
 rintro e' w8 ⟨er,ZR,rfl,hevR,hOkR,_,hA9⟩
 refine ⟨_,rfl,fun a hF=>hK _ _ ?_⟩
 replace hA9:Hp w0 (ZR::[row b3 31 ([.int .i64 ed.op,.int .i64 ed.num,.int .i64 ed.clk,ak ed.typ,ak ed.cas,ak ed.nam,.int .i64 ed.v.v.k,.int .i64 ed.v.v.n,ak ed.v.v.t,.slice ed.v.sA ed.v.v.s.length ed.v.sC,.slice ed.aA ed.args.length ed.aC,.slice ed.bA ed.src.length ed.bC]++dc ed.eff)]::ZD1::R) w8:=hA9
 have hr32:er.eff.length=32:=hOkR.i.2.2.2.2.2
 refine vR hF<|vX O<|vV O (aJ (v:= .agg (er.cells).toArray) rfl rfl rfl)<|vV O (aJ (v:= .int .i64 ((lS raw:Nat):Int)) O O O) fun a hF=>?_
 refine aH O (fun K hK=>dw hF O ae rfl hA9 qw (fun b10 w11 a hb10 hF hA12=>hK _ _ ?_))
 refine aH O (fun K hK=>bg (new:=er.cells) hF O O hA12 O O 0 O (by rw [List.length_append,aP,hr32]; rfl) (fun v hv=>gp (e:=er) hv) gZ (fun w13 hA14=>hK _ _ ?_))
 replace hA14:Hp w0 ([row b10 31 ([.int .i64 er.op,.int .i64 er.num,.int .i64 er.clk,ak er.typ,ak er.cas,ak er.nam,.int .i64 er.v.v.k,.int .i64 er.v.v.n,ak er.v.v.t,.slice er.v.sA er.v.v.s.length er.v.sC,.slice er.aA er.args.length er.aC,.slice er.bA er.src.length er.bC]++dc er.eff)]::ZR::[row b3 31 ([.int .i64 ed.op,.int .i64 ed.num,.int .i64 ed.clk,ak ed.typ,ak ed.cas,ak ed.nam,.int .i64 ed.v.v.k,.int .i64 ed.v.v.n,ak ed.v.v.t,.slice ed.v.sA ed.v.v.s.length ed.v.sC,.slice ed.aA ed.args.length ed.aC,.slice ed.bA ed.src.length ed.bC]++dc ed.eff)]::ZD1::R) w13:=hA14
 refine vR hF<|vX O<|vE hK3<|wT fun K4 hK4=>vX O<|vX O<|vV O (aG O O O O (eH rfl))<|vX O fun a hF=>?_
 refine aB hF O O O O (aj rfl) ae _ (dm (new:=[.int .i64 ed.op,.int .i64 ed.num,.int .i64 ed.clk,ak ed.typ,ak ed.cas,ak ed.nam,.int .i64 ed.v.v.k,.int .i64 ed.v.v.n,ak ed.v.v.t,.slice ed.v.sA ed.v.v.s.length ed.v.sC,.slice ed.aA ed.args.length ed.aC,.slice ed.bA ed.src.length ed.bC]++dc ed.eff) rfl hA14.q O 2 O FB (by rw [List.length_append,aP,hd32]; exact Nat.le_of_ble_eq_true rfl) (by rw [List.drop_zero]; exact Lj (by rw [List.length_append,aP,hd32]; exact Nat.le_of_ble_eq_true rfl))) (fun a hF=>?_)
 refine aB hF O O O O (aj rfl) ae _ (dm (new:=[.int .i64 er.op,.int .i64 er.num,.int .i64 er.clk,ak er.typ,ak er.cas,ak er.nam,.int .i64 er.v.v.k,.int .i64 er.v.v.n,ak er.v.v.t,.slice er.v.sA er.v.v.s.length er.v.sC,.slice er.aA er.args.length er.aC,.slice er.bA er.src.length er.bC]++dc er.eff) rfl hA14.q O 0 O FB (by rw [List.length_append,aP,hr32]; exact Nat.le_of_ble_eq_true rfl) (by rw [List.drop_zero]; exact Lj (by rw [List.length_append,aP,hr32]; exact Nat.le_of_ble_eq_true rfl))) (fun a hF=>?_)
 refine fB hF O O O (aj rfl) (fun K hK=>aI hF O ae Eg rfl rfl ?_)
 with_reducible refine (DW ed er _ hOk1 (List.cons_subset.2 ⟨(Lc _ (Lc _ (Lc _ ((La ..))))),List.nil_subset _⟩) hOkR (List.cons_subset.2 ⟨(Lc _ ((La ..))),List.nil_subset _⟩) hA14).mono ?_
 rintro e' w15 ⟨rfl,hA16⟩
 refine ⟨_,rfl,fun a hF=>hK _ _ ?_⟩
 replace hA16:Hp w0 ([row b10 31 ([.int .i64 er.op,.int .i64 er.num,.int .i64 er.clk,ak er.typ,ak er.cas,ak er.nam,.int .i64 er.v.v.k,.int .i64 er.v.v.n,ak er.v.v.t,.slice er.v.sA er.v.v.s.length er.v.sC,.slice er.aA er.args.length er.aC,.slice er.bA er.src.length er.bC]++dc er.eff)]::ZR::[row b3 31 ([.int .i64 ed.op,.int .i64 ed.num,.int .i64 ed.clk,ak ed.typ,ak ed.cas,ak ed.nam,.int .i64 ed.v.v.k,.int .i64 ed.v.v.n,ak ed.v.v.t,.slice ed.v.sA ed.v.v.s.length ed.v.sC,.slice ed.aA ed.args.length ed.aC,.slice ed.bA ed.src.length ed.bC]++dc ed.eff)]::ZD1::R) w15:=hA16
 rw [decide_eq_true (show ed.ev=er.ev by rw [hev1,hevR])] at hF
 refine vR hF<|vV O (aT O O O O)<|vX O fun a hF=>?_
 refine aB hF O O O O (aj rfl) ae _ (aX O O) (fun a hF=>?_)
 refine aB hF O O O O (aj rfl) ae _ (aX O O) (fun a hF=>?_)
 refine fB hF O O O (aj rfl) (fun K hK=>aI hF O ae Ee rfl rfl ?_)
 with_reducible refine (qN w0 _ ([row b10 31 ([.int .i64 er.op,.int .i64 er.num,.int .i64 er.clk,ak er.typ,ak er.cas,ak er.nam,.int .i64 er.v.v.k,.int .i64 er.v.v.n,ak er.v.v.t,.slice er.v.sA er.v.v.s.length er.v.sC,.slice er.aA er.args.length er.aC,.slice er.bA er.src.length er.bC]++dc er.eff)]::ZR::[row b3 31 ([.int .i64 ed.op,.int .i64 ed.num,.int .i64 ed.clk,ak ed.typ,ak ed.cas,ak ed.nam,.int .i64 ed.v.v.k,.int .i64 ed.v.v.n,ak ed.v.v.t,.slice ed.v.sA ed.v.v.s.length ed.v.sC,.slice ed.aA ed.args.length ed.aC,.slice ed.bA ed.src.length ed.bC]++dc ed.eff)]::ZD1::R) A1 A2 raw c1 c2 (h1.mono (List.Subset.trans hG (bF (bF (bF (bF (dH))))))) (h2.mono (List.Subset.trans hG (bF (bF (bF (bF (dH))))))) hc1 hA16 hl).mono ?_
 rintro e' w17 ⟨rfl,hA18⟩
 refine ⟨_,rfl,fun a hF=>hK _ _ ?_⟩
 replace hA18:Hp w0 ([row b10 31 ([.int .i64 er.op,.int .i64 er.num,.int .i64 er.clk,ak er.typ,ak er.cas,ak er.nam,.int .i64 er.v.v.k,.int .i64 er.v.v.n,ak er.v.v.t,.slice er.v.sA er.v.v.s.length er.v.sC,.slice er.aA er.args.length er.aC,.slice er.bA er.src.length er.bC]++dc er.eff)]::ZR::[row b3 31 ([.int .i64 ed.op,.int .i64 ed.num,.int .i64 ed.clk,ak ed.typ,ak ed.cas,ak ed.nam,.int .i64 ed.v.v.k,.int .i64 ed.v.v.n,ak ed.v.v.t,.slice ed.v.sA ed.v.v.s.length ed.v.sC,.slice ed.aA ed.args.length ed.aC,.slice ed.bA ed.src.length ed.bC]++dc ed.eff)]::ZD1::R) w17:=hA18
 refine vR hF<|vV O (aT O O O O)<|vX O<|vE hK4 fun a hF=>?_
 apply wp_ret
 refine aN hF Tryz.results18 O ?_
 have hA19:Hp w0 (R) w17:=hpS 4 [] [0,1,2,3] hA18 rfl
 exact ⟨rfl,hA19⟩
theorem vT (w0:World) (A:Option Addr) (raw:List UInt8) (c:Nat) (at_:Int) (hT:oH w0) (hTR:yD w0) (hR:Rd w0 [] A raw) (hc:raw.length≤c) (hl:raw.length≤140737488351232):Calls Tryz.prog 4 #[.slice A raw.length c,.int .i64 at_] w0 fun e W'=>e= .returned (.bool true)∧At w0 [] W':=by
 have hA:Hp w0 [] w0:=Hp.start w0
 refine aO Tryz.func4 O Tryz.ntmps4 ai (fun a hF=>?_)
 refine wS hF fun K1 hK1=>vX O<|vE hK1<|wT fun K2 hK2=>vX O fun a hF=>?_
 refine aH O (fun K hK=>aI hF O ae Ej rfl rfl ?_)
 with_reducible refine (uk w0 _ [] A raw c (hR.mono (List.nil_subset _)) hA ag).mono ?_
 rintro e' w1 ⟨g,rfl,hA2⟩
 refine ⟨_,rfl,fun a hF=>hK _ _ ?_⟩
 replace hA2:Hp w0 ([row g 5 (dc (raw++List.replicate 80 219))]::[]) w1:=hA2
 refine vR hF<|vX O<|vE hK2<|wQ fun K3 hK3=>wQ fun K4 hK4 a hF=>?_
 have hA3:Hp w0 ([row g 5 (dc (raw++List.replicate 80 219))]::[]) w1:=hA2
 refine wp_region_lit ?_
 refine aH O (fun K hK=>aI hF O ae Eo rfl rfl ?_)
 with_reducible refine (DZ _ hT hA3).mono ?_
 rintro e' w4 ⟨rfl,hA5⟩
 refine ⟨_,rfl,fun a hF=>hK _ _ ?_⟩
 replace hA5:Hp w0 ([row g 5 (dc (raw++List.replicate 80 219))]::[]) w4:=hA5
 refine vR hF<|vV O (dJ O O O)<|vX O fun a hF=>?_
 refine aB hF O O O O (aj rfl) ae _ (aX O O) (fun a hF=>?_)
 refine aB hF O O O O (aj rfl) ae _ (aX O O) (fun a hF=>?_)
 refine fB hF O O O (aj rfl) (fun K hK=>aI hF O ae qB rfl rfl ?_)
 with_reducible refine (lN (G:=[[row g 5 (dc (raw++List.replicate 80 219))]]) (some ⟨g,0,none⟩) (raw.length+80) A raw c _ hT hTR (Rc.ofRow (i:=0) (off:=0) rfl (by rw [List.drop_zero]; exact List.take_length ..)) (KZ _) (hR.mono (List.nil_subset _)) hc (List.cons_subset.2 ⟨((La ..)),List.nil_subset _⟩) ag hA5).mono ?_
 rintro e' w6 ⟨rfl,hA7⟩
 refine ⟨_,rfl,fun a hF=>hK _ _ ?_⟩
 replace hA7:Hp w0 ([row g 5 (dc (raw++List.replicate 80 219))]::[]) w6:=hA7
 refine aB hF O O O O (aj rfl) ae _ (dJ O O O) (fun a hF=>?_)
 refine vR hF<|vV O (aS O O O O)<|vE hK4<|vF1 O<|wKp hK3<|wQ fun K5 hK5=>wT fun K6 hK6=>vX O<|vV O (aZ O KY O O)<|vV O (aG O O O O O)<|vE hK6 fun a hF=>?_
 have hJ:∀ (a:Act) (x:World),Fr 53 [(0,.slice A raw.length c),(5,.slice (some ⟨g,0,none⟩) (raw.length+80) (raw.length+80))] a→Hp w0 ([row g 5 (dc (raw++List.replicate 80 219))]::[]) x→K5 a x:=by
  clear hF
  intro a x hF hA
  refine hK5 _ _ ?_
  refine wS hF fun K7 hK7=>vX O<|vX O fun a hF=>?_
  refine aH O (fun K hK=>aI hF O ae qB rfl rfl ?_)
  with_reducible refine (lN (G:=[[row g 5 (dc (raw++List.replicate 80 219))]]) (some ⟨g,0,none⟩) (raw.length+80) A raw c _ hT hTR (Rc.ofRow (i:=0) (off:=0) rfl (by rw [List.drop_zero]; exact List.take_length ..)) (KZ _) (hR.mono (List.nil_subset _)) hc (List.cons_subset.2 ⟨((La ..)),List.nil_subset _⟩) ag hA).mono ?_
  rintro e' w8 ⟨rfl,hA9⟩
  refine ⟨_,rfl,fun a hF=>hK _ _ ?_⟩
  replace hA9:Hp w0 ([row g 5 (dc (raw++List.replicate 80 219))]::[]) w8:=hA9
  refine vR hF<|vX O<|vE hK7 fun a hF=>?_
  apply wp_ret
  refine aN hF Tryz.results4 O ?_
  have hA10:Hp w0 ([]) w8:=hpS 1 [] [0] hA9 rfl
  exact ⟨rfl,hA10.at0⟩
 by_cases h0:0<raw.length
 ·refine aF hF O (fA ag) ?_
  refine wS hF fun K8 hK8=>vX O fun a hF=>?_
  have hA11:Hp w0 (([]:Seg)::[row g 5 (dc (raw++List.replicate 80 219))]::[]) w6:=Hp.nil hA7
  refine aH O (fun K hK=>bG hF O ae rfl hA11 0 O (Buf.nil 5 1) KY bZ rfl rfl (Rc.src hR (Hq.sub hA11.q (List.nil_subset _)) KY) ag ae (fun v2 X2 w12 a hO2 hF hA13=>hK _ _ ?_))
  replace hA13:Hp w0 (X2::[row g 5 (dc (raw++List.replicate 80 219))]::[]) w12:=hA13
  rw [List.nil_append,Nat.zero_add] at hO2
  refine vR hF<|vX O<|vE hK8<|wQ fun K9 hK9 a hF=>?_
  obtain ⟨k,hk⟩:∃ k:Nat,gQ at_ 0 ((raw.length:Int)-1)=(k:Int):=⟨(gQ at_ 0 ((raw.length:Int)-1)).toNat,by have:=kS at_ 0 ((raw.length:Int)-1) ag; omega⟩
  have hkl:=kS at_ 0 ((raw.length:Int)-1) ag
  rw [hk] at hkl
  obtain ⟨s7,hs7⟩:∃ k:Nat,gQ at_ 0 7=(k:Int):=⟨(gQ at_ 0 7).toNat,by have:=kS at_ 0 7 ae; omega⟩
  have hsl:=kS at_ 0 7 ae
  rw [hs7] at hsl
  obtain ⟨xb,hxb⟩:∃ xb:UInt8,xb=UInt8.ofNat ((bAt raw k).toNat ^^^ 2 ^ s7):=⟨_,rfl⟩
  obtain ⟨mut_,hrw2⟩:∃ r2,r2=raw.set k xb:=⟨_,rfl⟩
  have hlw:mut_.length=raw.length:=by rw [hrw2,List.length_set]
  obtain ⟨gv,BV,ZV,cv,rfl,rfl,hcv,hO3⟩:=H8 hO2 (i:=k) ag (.int .u8 (xb.toNat:Int))
  rw [Jn,← hrw2] at hO3
  refine wp_region_lit ?_
  refine vR hF<|vX O<|vX O<|vV O (aZ O KY O O)<|vV O (eU O O O (KX _ ag)) fun a hF=>?_
  refine aH O (fun K hK=>aI hF O ae wW rfl rfl ?_)
  with_reducible refine (sJ w12 at_ 0 ((raw.length:Int)-1) ae ag ag).mono ?_
  rintro e' w16 ⟨rfl,rfl⟩
  refine ⟨_,rfl,fun a hF=>hK _ _ ?_⟩
  rw [hk] at hF
  refine vR hF<|vX O<|vE hK9<|wQ fun K10 hK10 a hF=>?_
  refine bJ 12 [7,12] [0,1,2,3,4,5,6,7,8,9,10,11,12] _ af af (Hq.drew hA13.q) ?_
  have hA17:=Hl.drew hA13
  refine pR hF<|pX O O<|pX O O<|pX O O<|pX O O<|pW O O (fun _=>bT O KY tq O O k rfl ag (ad2 _ _ _))<|pV O O (fun x hx=>aW (u:= .int .u8 ((bAt raw k).toNat:Int)) O hx O 0 O (Jq ag) uf)<|pX O O fun a hF=>?_
  refine iq O O O (fun K hK=>aI hF O ae wW rfl rfl ?_)
  with_reducible refine (sJ w12.drew at_ 0 7 ae ae ae).mono ?_
  rintro e' w20 ⟨rfl,rfl⟩
  refine ⟨_,rfl,fun a hF=>hK _ _ (fun _=>?_) ?_⟩
  ·exact hA17.q
  rw [hs7] at hF
  refine pR hF<|pW O O (fun _=>bI O Lh Tryz.underlying38 O (show IntKind.u64.wrap (s7:Int)=(s7:Int) by rw [IntKind.wrap_u64]; omega)) fun a hF=>?_
  refine pR hF<|pW O O (fun _=>uH O O O ag (sh8 ag))<|pW O O (fun _=>Ju O O O (show bits .xor .u8 ((bAt raw k).toNat:Int) ((2 ^ s7:Nat):Int)=(xb.toNat:Int) by rw [hxb]; exact Kr _ ag)) fun a hF=>?_
  refine pR hF<|pW O O (fun _=>bT O KY tq O O k rfl ag (ad2 _ _ _)) fun a hF=>?_
  refine iq O O O (fun K hK=>bz hF O O hA17 O O 0 O (by rw [List.length_append,List.length_append,aP]; omega) rfl tq (fun w21 hA22=>hK _ _ (fun h=>absurd h ae) ?_))
  replace hA22:Hp w0 ([row gv 5 ((BV++dc raw++ZV).set (BV.length+k) (.int .u8 (xb.toNat:Int)))]::[row g 5 (dc (raw++List.replicate 80 219))]::[]) w21:=hA22
  refine dK ?_
  refine hK10 _ _ ?_
  apply wp_seq_k; intro K11 hK11
  obtain ⟨_,A6,c6,he6,hc6,hR6⟩:=hO3.rd (w0:=w0) (R:=[[row gv 5 ((BV++dc raw++ZV).set (BV.length+k) (.int .u8 (xb.toNat:Int)))]]) (La ..)
  injection he6 with he6 _ he7
  subst he6 he7
  obtain ⟨XV,hXV⟩:∃ X:Seg,X=[row gv 5 ((BV++dc raw++ZV).set (BV.length+k) (.int .u8 (xb.toNat:Int)))]:=⟨_,rfl⟩
  rw [← hXV] at hR6 hA22
  refine wp_region_lit ?_
  refine vR hF<|vX O<|vX O fun a hF=>?_
  refine aH O (fun K hK=>um hF O ae rfl hA22 KY eG rfl rfl mut_ (by rw [hlw]; exact (Nat.min_eq_left ag).symm) (Rc.bts hR6 (Hq.sub hA22.q (List.cons_subset.2 ⟨((La ..)),List.nil_subset _⟩))) 0 1 O (fun _=>rfl) (by rw [aP,List.length_append]; omega) (fun w23 a hF hA24=>hK _ _ ?_))
  replace hA24:Hp w0 (XV::[row g 5 (splice (dc (raw++List.replicate 80 219)) 0 (dc mut_))]::[]) w23:=hA24
  have hA25:Hp w0 (XV::[row g 5 (dc (mut_++List.replicate 80 219))]::[]) w23:=(by have h9:=hA24; rw [nT hlw] at h9; exact h9)
  refine aK<|hK11 _ _ ?_
  apply wp_seq_k; intro K12 hK12
  apply wp_seq_k; intro K13 hK13
  rw [← hlw] at hF
  refine wp_region_lit ?_
  refine vR hF<|vX O<|vX O fun a hF=>?_
  refine aH O (fun K hK=>aI hF O ae qB rfl rfl ?_)
  with_reducible refine (lN (G:=[[row g 5 (dc (mut_++List.replicate 80 219))],XV]) (some ⟨g,0,none⟩) (mut_.length+80) (some ⟨gv,BV.length,none⟩) mut_ cv _ hT hTR (Rc.ofRow (i:=0) (off:=0) rfl (by rw [List.drop_zero]; exact List.take_length ..)) (KZ _) (hR6.mono (List.cons_subset.2 ⟨(Lc _ (La ..)),List.nil_subset _⟩)) (by rw [hlw]; exact hcv) (List.cons_subset.2 ⟨(Lc _ ((La ..))),(List.cons_subset.2 ⟨((La ..)),List.nil_subset _⟩)⟩) ag hA25).mono ?_
  rintro e' w26 ⟨rfl,hA27⟩
  refine ⟨_,rfl,fun a hF=>hK _ _ ?_⟩
  replace hA27:Hp w0 (XV::[row g 5 (dc (mut_++List.replicate 80 219))]::[]) w26:=hA27
  refine vR hF<|vV O (dJ O O O)<|vE hK13<|vF1 O fun a hF=>?_
  rw [hlw] at hF
  apply wp_skip
  refine hK12 _ _ ?_
  refine wp_region_lit ?_
  refine vR hF<|vX O<|vX O fun a hF=>?_
  refine aH O (fun K hK=>um hF O ae rfl hA27 KY eG rfl rfl raw (Nat.min_eq_left ag).symm (hR.bts (Hq.sub hA27.q (List.nil_subset _))) 0 1 O (fun _=>rfl) (by rw [aP,List.length_append]; omega) (fun w28 a hF hA29=>hK _ _ ?_))
  replace hA29:Hp w0 (XV::[row g 5 (splice (dc (mut_++List.replicate 80 219)) 0 (dc raw))]::[]) w28:=hA29
  have hA30:Hp w0 (XV::[row g 5 (dc (raw++List.replicate 80 219))]::[]) w28:=(by have h9:=hA29; rw [nT hlw.symm] at h9; exact h9)
  refine aK ?_
  have hA31:Hp w0 ([row g 5 (dc (raw++List.replicate 80 219))]::[]) w28:=hpS 2 [1] [0] hA30 rfl
  exact hJ _ _ (hF.keep [0,5] rfl) hA31
 ·refine ay hF O (fC ag) ?_
  apply wp_skip
  exact hJ _ _ (hF.keep [0,5] rfl) hA7
end Go.Proofs.YtepbmdlgdaedpaaGreatDoor
