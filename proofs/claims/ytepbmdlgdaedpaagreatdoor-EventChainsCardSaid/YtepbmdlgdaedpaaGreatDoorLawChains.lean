/- EventChains walked. -/
import Derived.Test.YtepbmdlgdaedpaaGreatDoorEnt
import Derived.Test.YtepbmdlgdaedpaaGreatDoorKp
/- EventChains walked. -/
namespace Go.Proofs.YtepbmdlgdaedpaaGreatDoor
open Go.RowKit Go.Dk
theorem Gx:aQ Tryz.prog 15:=⟨_,Tryz.func15,af,af⟩
theorem Gu:aQ Tryz.prog 17:=⟨_,Tryz.func17,af,af⟩
theorem Gq:aQ Tryz.prog 63:=⟨_,Tryz.func63,af,af⟩
theorem Gp:aQ Tryz.prog 64:=⟨_,Tryz.func64,af,af⟩
theorem Gn:aQ Tryz.prog 65:=⟨_,Tryz.func65,af,af⟩
theorem Gm:aQ Tryz.prog 66:=⟨_,Tryz.func66,af,af⟩
theorem KF {w0:World} {R:List Seg} {A:Option Addr} {l m:List UInt8} (h:Rd w0 R A (l++m)):Rd w0 R A l:=by
 have:=Rd.take h l.length
 rwa [List.take_left' rfl] at this
noncomputable def NH:Field:=(Tryz.prog.fieldsOf 49)[0]?.getD default
noncomputable def NG:Field:=(Tryz.prog.fieldsOf 49)[1]?.getD default
theorem JP:(Tryz.prog.fieldsOf 49).toList=[NH,NG]:=af
theorem Nc {i m:Nat} (h:((aJ .lss (((i:Nat):Int)) (m)) && (aJ .lss (((i:Nat):Int)) (50)))=true):i<m:=by
 simp [aJ] at h
 omega
set_option maxRecDepth 100000 in
set_option maxHeartbeats 8000000 in
theorem Ae (w0:World) (n:Int) (d:List UInt8) (P:Option Addr) (ps:List Piece) (cP:Nat) (ea:EA) (hTD:Tab w0) (hT:sQ w0) (hd:d.length=32) (hP:PcS w0 [] P ps) (hsz:∀ p∈ps,p.2.2.length≤140737488351232) (hpn:ps.length≤9223372036854775807) (hV:ea.Ok w0 []):Calls Tryz.prog 13 #[.agg (.int .i64 n::dc d:List Value).toArray,.slice P ps.length cP,.agg ea.cells.toArray] w0 fun e W'=>e= .returned (.bool true)∧At w0 [] W':=by
 have hA:Hp w0 [] w0:=Hp.start w0
 have he32:ea.eff.length=32:=hV.i.2.2.2.2.2
 have hP1:=hP.1
 refine aP Tryz.func13 O Tryz.ntmps13 ai (fun a hF=>?_)
 refine wp_seq_k fun K1 hK1=>wp_region_lit ?_
 refine ay O (fun K hK=>fM (cs:= .int .i64 n::dc d) hF O ae rfl hA O (fun b1 w2 a hb1 hF hA3=>hK _ _ ?_))
 refine ay O (fun K hK=>fM (cs:=ea.cells) hF O ae rfl hA3 O (fun b4 w5 a hb4 hF hA6=>hK _ _ ?_))
 refine vR hF<|vX O<|vE hK1<|wT fun K2 hK2=>vV O (df (new:=(.int .i64 n::dc d)) O hA6.q O 1 O xC (by rw [dP hd]; exact NV _) (by rw [List.drop_zero]; exact NZ (by rw [dP hd]; exact NV _))) fun a hF=>?_
 refine ay O (fun K hK=>cZ hF O ae rfl hA6 (wL) (fun b7 w8 a hb7 hF hA9=>hK _ _ ?_))
 refine ay O (fun K hK=>aZ (new:=(.int .i64 n::dc d)) hF O O hA9 O O 0 O (by rw [dP hd]; rfl) (pK _ _) xh (fun w10 hA11=>hK _ _ ?_))
 replace hA11:Hp w0 ([row b7 49 (.int .i64 n::dc d)]::[row b4 31 ([.int .i64 ea.op,.int .i64 ea.num,.int .i64 ea.clk,aj ea.typ,aj ea.cas,aj ea.nam,.int .i64 ea.v.v.k,.int .i64 ea.v.v.n,aj ea.v.v.t,.slice ea.v.sA ea.v.v.s.length ea.v.sC,.slice ea.aA ea.args.length ea.aC,.slice ea.bA ea.src.length ea.bC]++dc ea.eff)]::[row b1 49 (.int .i64 n::dc d)]::[]) w10:=hA11
 refine aI<|hK2 _ _ ?_
 refine wS hF fun K3 hK3=>vV O (df (new:=(.int .i64 n::dc d)) O hA11.q O 2 O xC (by rw [dP hd]; exact NV _) (by rw [List.drop_zero]; exact NZ (by rw [dP hd]; exact NV _))) fun a hF=>?_
 refine ay O (fun K hK=>cZ hF O ae rfl hA11 (wL) (fun b12 w13 a hb12 hF hA14=>hK _ _ ?_))
 refine ay O (fun K hK=>aZ (new:=(.int .i64 n::dc d)) hF O O hA14 O O 0 O (by rw [dP hd]; rfl) (pK _ _) xh (fun w15 hA16=>hK _ _ ?_))
 replace hA16:Hp w0 ([row b12 49 (.int .i64 n::dc d)]::[row b7 49 (.int .i64 n::dc d)]::[row b4 31 ([.int .i64 ea.op,.int .i64 ea.num,.int .i64 ea.clk,aj ea.typ,aj ea.cas,aj ea.nam,.int .i64 ea.v.v.k,.int .i64 ea.v.v.n,aj ea.v.v.t,.slice ea.v.sA ea.v.v.s.length ea.v.sC,.slice ea.aA ea.args.length ea.aC,.slice ea.bA ea.src.length ea.bC]++dc ea.eff)]::[row b1 49 (.int .i64 n::dc d)]::[]) w15:=hA16
 refine aI<|hK3 _ _ ?_
 apply wp_seq_k; intro K4 hK4
 refine wS hF fun K5 hK5=>vX O<|vE hK5<|wBk fun a hF=>?_
 have hA17:Hp w0 ([row b7 49 (.int .i64 n::dc d)]::[row b12 49 (.int .i64 n::dc d)]::[row b4 31 ([.int .i64 ea.op,.int .i64 ea.num,.int .i64 ea.clk,aj ea.typ,aj ea.cas,aj ea.nam,.int .i64 ea.v.v.k,.int .i64 ea.v.v.n,aj ea.v.v.t,.slice ea.v.sA ea.v.v.s.length ea.v.sC,.slice ea.aA ea.args.length ea.aC,.slice ea.bA ea.src.length ea.bC]++dc ea.eff)]::[]) w15:=hpS 4 [1,0,2] [3] hA16 rfl
 refine bH (G:=Nat) (fun i a x=>∃ (m:Int) (D:List UInt8),i≤ps.length∧D.length=32∧Fr 63 [(9,.int .i64 ((i:Nat):Int)),(1,.slice P ps.length cP),(5,.pointer (some ⟨b4,0,none⟩)),(7,.pointer (some ⟨b7,0,none⟩)),(8,.pointer (some ⟨b12,0,none⟩))] a∧Hp w0 ([row b7 49 (.int .i64 m::dc D)]::[row b12 49 (.int .i64 m::dc D)]::[row b4 31 ([.int .i64 ea.op,.int .i64 ea.num,.int .i64 ea.clk,aj ea.typ,aj ea.cas,aj ea.nam,.int .i64 ea.v.v.k,.int .i64 ea.v.v.n,aj ea.v.v.t,.slice ea.v.sA ea.v.v.s.length ea.v.sC,.slice ea.aA ea.args.length ea.aC,.slice ea.bA ea.src.length ea.bC]++dc ea.eff)]::[]) x) (fun i=>ps.length-i) 0 (⟨n,d,NR _,hd,hF.keep [9,1,5,7,8] rfl,hA17⟩) ?_
 clear hF
 rintro i a w19 ⟨m,D,hi,hD,hF,hA18⟩
 apply wp_seq_k; intro K6 hK6
 refine wS hF fun K7 hK7=>vX O<|vX O<|vV O (aX O Oq O O)<|vV O (az O O O O O)<|vX O fun a hF=>?_
 refine bM (l2:=?lA1) hF [(20,.bool ((aJ .lss (((i:Nat):Int)) (ps.length)) && (aJ .lss (((i:Nat):Int)) (50)))),(1,.slice P ps.length cP),(5,.pointer (some ⟨b4,0,none⟩)),(7,.pointer (some ⟨b7,0,none⟩)),(8,.pointer (some ⟨b12,0,none⟩)),(9,.int .i64 ((i:Nat):Int))] (fun hJ1=>?elA1) (fun a hF=>?flA1)
 case elA1 =>
  rcases tf (aJ .lss (((i:Nat):Int)) (ps.length)) with hg1 | hg1
  ·refine aG hF O O O O O (aH hg1) ae (fun a hF=>?_)
   refine aG hF O O O O O (aH hg1) ae (fun a hF=>?_)
   refine vR hF<|vV O (bf hg1 rfl rfl rfl) fun a hF=>?_
   exact hJ1 _ ((hF.keep [20,1,5,7,8,9] (F':=[(20,_),(1,_),(5,_),(7,_),(8,_),(9,_)]) O).bool (by rw [hg1]; rfl))
  ·refine aN hF O O O O (ak hg1) ae _ (aW O O) (fun a hF=>?_)
   refine aN hF O O O O (ak hg1) ae _ (az O O O O O) (fun a hF=>?_)
   refine vR hF<|vV O (bD hg1 rfl rfl rfl) fun a hF=>?_
   exact hJ1 _ ((hF.keep [20,1,5,7,8,9] (F':=[(20,_),(1,_),(5,_),(7,_),(8,_),(9,_)]) O).bool (by rw [hg1]; rfl))
 refine aI<|hK7 _ _ ?_
 rcases tf ((aJ .lss (((i:Nat):Int)) (ps.length)) && (aJ .lss (((i:Nat):Int)) (50))) with hc | hc
 ·refine au hF O hc ?_
  apply wp_exit
  refine hK4 _ _ ?_
  apply wp_seq_k; intro K8 hK8
  refine aT 8 [1,6,8] [0,2,3,1,4,5,6,7,8] _ af af (Hq.drew hA18.q) ?_
  have hA20:=Hl.drew hA18
  refine pR hF<|pV O O (fun x hx=>df (new:=[.int .i64 ea.op,.int .i64 ea.num,.int .i64 ea.clk,aj ea.typ,aj ea.cas,aj ea.nam,.int .i64 ea.v.v.k,.int .i64 ea.v.v.n,aj ea.v.v.t,.slice ea.v.sA ea.v.v.s.length ea.v.sC,.slice ea.aA ea.args.length ea.aC,.slice ea.bA ea.src.length ea.bC]++dc ea.eff) rfl hx O 2 O Ik (by rw [List.length_append,aK,he32]; exact Nat.le_of_ble_eq_true rfl) (by rw [List.drop_zero]; exact NZ (by rw [List.length_append,aK,he32]; exact Nat.le_of_ble_eq_true rfl))) fun a hF=>?_
  refine pR hF<|pW O O (fun _=>yf 4 O N9 O uV O)<|pV O O (fun x hx=>bi O hx O 2 O O vM) fun a hF=>?_
  refine eY O O O (fun K hK=>aB hF O ae Gm rfl rfl ?_)
  with_reducible refine (Na ea _ hV hA20).mono ?_
  rintro e' w21 ⟨rfl,hA22⟩
  refine ⟨_,rfl,fun a hF=>hK _ _ (fun _=>?_) ?_⟩
  ·exact hA22.q
  replace hA22:Hp w0 ([row b7 49 (.int .i64 m::dc D)]::[row b12 49 (.int .i64 m::dc D)]::[row b4 31 ([.int .i64 ea.op,.int .i64 ea.num,.int .i64 ea.clk,aj ea.typ,aj ea.cas,aj ea.nam,.int .i64 ea.v.v.k,.int .i64 ea.v.v.n,aj ea.v.v.t,.slice ea.v.sA ea.v.v.s.length ea.v.sC,.slice ea.aA ea.args.length ea.aC,.slice ea.bA ea.src.length ea.bC]++dc ea.eff)]::[]) w21:=hA22
  refine pR hF<|pW O O (fun _=>iY O O O O (EC rfl))<|pX O O fun a hF=>?_
  refine L6 hF O O O O O O (fun K hK=>aB hF O ae Gx rfl rfl ?_)
  with_reducible refine (FY _ hT hA22).mono ?_
  rintro e' w23 ⟨rfl,hA24⟩
  refine ⟨_,rfl,fun a hF=>hK _ _ (fun _=>?_) ?_⟩
  ·exact hA24.q
  replace hA24:Hp w0 ([row b7 49 (.int .i64 m::dc D)]::[row b12 49 (.int .i64 m::dc D)]::[row b4 31 ([.int .i64 ea.op,.int .i64 ea.num,.int .i64 ea.clk,aj ea.typ,aj ea.cas,aj ea.nam,.int .i64 ea.v.v.k,.int .i64 ea.v.v.n,aj ea.v.v.t,.slice ea.v.sA ea.v.v.s.length ea.v.sC,.slice ea.aA ea.args.length ea.aC,.slice ea.bA ea.src.length ea.bC]++dc ea.eff)]::[]) w23:=hA24
  refine pR hF<|pW O O (fun _=>dH O O O) fun a hF=>?_
  refine iE hF O O O O ae _ (kW O O) (fun h=>absurd h ae) (fun a hF=>?_)
  refine bF ?_
  refine hK8 _ _ ?_
  apply wp_ret
  refine aO hF Tryz.results13 O ?_
  have hA25:Hp w0 ([]) w23:=hpS 3 [] [0,1,2] hA24 rfl
  exact ⟨rfl,hA25.at0⟩
 ·refine aF hF O hc ?_
  have hlt:=Nc hc
  obtain ⟨⟨X,c,l⟩,hp⟩:∃ q,ps[i]? = some q:=⟨_,List.getElem?_eq_getElem hlt⟩
  obtain ⟨b,o,hsA,hcc⟩:=hP1.ne (i:=i) (by rw [List.length_map]; exact hlt)
  have hR:Rd w0 [] X l:=(hP.2 _ (List.mem_of_getElem? hp)).2
  have hcl:l.length≤c:=(hP.2 _ (List.mem_of_getElem? hp)).1
  have hl:l.length≤140737488351232:=hsz _ (List.mem_of_getElem? hp)
  rw [hsA] at hF
  apply wp_skip
  refine hK6 _ _ ?_
  apply wp_seq_k; intro K9 hK9
  apply wp_block
  refine wS hF fun K10 hK10=>vX O<|vX O<|vV O (cO O Oq dJ O O i rfl hlt (ad2 _ _ _))<|vV O (fO (u:= .slice X l.length c) rfl (Hq.sub hA18.q (List.nil_subset _)) O hcc i (by rw [List.length_map]; exact hlt) rfl (by rw [List.getElem?_map,hp]; rfl) jV) fun a hF=>?_
  refine ay O (fun K hK=>aB hF O ae Gu rfl rfl ?_)
  with_reducible refine (vU w0 _ ([row b7 49 (.int .i64 m::dc D)]::[row b12 49 (.int .i64 m::dc D)]::[row b4 31 ([.int .i64 ea.op,.int .i64 ea.num,.int .i64 ea.clk,aj ea.typ,aj ea.cas,aj ea.nam,.int .i64 ea.v.v.k,.int .i64 ea.v.v.n,aj ea.v.v.t,.slice ea.v.sA ea.v.v.s.length ea.v.sC,.slice ea.aA ea.args.length ea.aC,.slice ea.bA ea.src.length ea.bC]++dc ea.eff)]::[]) X l c (hR.mono (List.nil_subset _)) hA18 ag).mono ?_
  rintro e' w26 ⟨g,rfl,hA27⟩
  refine ⟨_,rfl,fun a hF=>hK _ _ ?_⟩
  replace hA27:Hp w0 ([row g 5 (dc (l++List.replicate 80 219))]::[row b7 49 (.int .i64 m::dc D)]::[row b12 49 (.int .i64 m::dc D)]::[row b4 31 ([.int .i64 ea.op,.int .i64 ea.num,.int .i64 ea.clk,aj ea.typ,aj ea.cas,aj ea.nam,.int .i64 ea.v.v.k,.int .i64 ea.v.v.n,aj ea.v.v.t,.slice ea.v.sA ea.v.v.s.length ea.v.sC,.slice ea.aA ea.args.length ea.aC,.slice ea.bA ea.src.length ea.bC]++dc ea.eff)]::[]) w26:=hA27
  refine vR hF<|vX O<|vE hK10<|wQ fun K11 hK11 a hF=>?_
  refine aT 9 [8,9] [0,1,2,3,4,5,6,7,8,9] _ af af (Hq.drew hA27.q) ?_
  have hA28:=Hl.drew hA27
  refine pR hF<|pV O O (fun x hx=>df (new:=(.int .i64 m::dc D)) O hx O 1 O xC (by rw [dP hD]; exact NV _) (by rw [List.drop_zero]; exact NZ (by rw [dP hD]; exact NV _))) fun a hF=>?_
  refine pR hF<|pX O O<|pX O O<|pX O O<|pW O O (fun _=>cO O Oq dJ O O i rfl hlt (ad2 _ _ _))<|pV O O (fun x hx=>fO (u:= .slice X l.length c) rfl (Hq.sub hx (List.nil_subset _)) O hcc i (by rw [List.length_map]; exact hlt) rfl (by rw [List.getElem?_map,hp]; rfl) jV) fun a hF=>?_
  refine pR hF<|pW O O (fun _=>aX O NQ O O)<|pW O O (fun _=>jP O NQ fD rfl (.none 0) (.some rfl rfl) (NR _) ag je) fun a hF=>?_
  refine eY O O O (fun K hK=>aB hF O ae Gq rfl rfl ?_)
  with_reducible refine (F5 (G:=[[row g 5 (dc (l++List.replicate 80 219))]]) m D (some ⟨g,0,none⟩) l (l.length+80) _ hD (KF (Rc.ofRow (i:=0) (off:=0) rfl (by rw [List.drop_zero]; exact List.take_length ..))) (Nat.le_add_right _ _) ag hTD (List.cons_subset.2 ⟨((NT ..)),List.nil_subset _⟩) hA28).mono ?_
  rintro e' w29 ⟨rfl,hA30⟩
  refine ⟨_,rfl,fun a hF=>hK _ _ (fun _=>?_) ?_⟩
  ·exact hA30.q
  refine eY O O O (fun K hK=>aZ (new:=(.int .i64 (nxt m)::dc (dZ D l))) hF O O hA30 O O 1 O (by rw [dP (dE D l),dP hD]) (pK _ _) (by rw [dP hD]; exact xh) (fun w31 hA32=>hK _ _ (fun h=>absurd h ae) ?_))
  replace hA32:Hp w0 ([row g 5 (dc (l++List.replicate 80 219))]::[row b7 49 (.int .i64 (nxt m)::dc (dZ D l))]::[row b12 49 (.int .i64 m::dc D)]::[row b4 31 ([.int .i64 ea.op,.int .i64 ea.num,.int .i64 ea.clk,aj ea.typ,aj ea.cas,aj ea.nam,.int .i64 ea.v.v.k,.int .i64 ea.v.v.n,aj ea.v.v.t,.slice ea.v.sA ea.v.v.s.length ea.v.sC,.slice ea.aA ea.args.length ea.aC,.slice ea.bA ea.src.length ea.bC]++dc ea.eff)]::[]) w31:=hA32
  refine bF ?_
  refine hK11 _ _ ?_
  apply wp_seq_k; intro K12 hK12
  refine aT 6 [5,6] [0,1,2,3,4,5,6] _ af af (Hq.drew hA32.q) ?_
  have hA33:=Hl.drew hA32
  refine pR hF<|pV O O (fun x hx=>df (new:=(.int .i64 m::dc D)) O hx O 2 O xC (by rw [dP hD]; exact NV _) (by rw [List.drop_zero]; exact NZ (by rw [dP hD]; exact NV _))) fun a hF=>?_
  refine pR hF<|pX O O<|pX O O<|pW O O (fun _=>cO O Oq dJ O O i rfl hlt (ad2 _ _ _))<|pV O O (fun x hx=>fO (u:= .slice X l.length c) rfl (Hq.sub hx (List.nil_subset _)) O hcc i (by rw [List.length_map]; exact hlt) rfl (by rw [List.getElem?_map,hp]; rfl) jV) fun a hF=>?_
  refine eY O O O (fun K hK=>aB hF O ae Gp rfl rfl ?_)
  with_reducible refine (EK m D X l c _ hD hR hcl ag (List.nil_subset _) hA33).mono ?_
  rintro e' w34 ⟨rfl,hA35⟩
  refine ⟨_,rfl,fun a hF=>hK _ _ (fun _=>?_) ?_⟩
  ·exact hA35.q
  refine eY O O O (fun K hK=>aZ (new:=(.int .i64 (nxt m)::dc (dZ D l))) hF O O hA35 O O 2 O (by rw [dP (dE D l),dP hD]) (pK _ _) (by rw [dP hD]; exact xh) (fun w36 hA37=>hK _ _ (fun h=>absurd h ae) ?_))
  replace hA37:Hp w0 ([row g 5 (dc (l++List.replicate 80 219))]::[row b7 49 (.int .i64 (nxt m)::dc (dZ D l))]::[row b12 49 (.int .i64 (nxt m)::dc (dZ D l))]::[row b4 31 ([.int .i64 ea.op,.int .i64 ea.num,.int .i64 ea.clk,aj ea.typ,aj ea.cas,aj ea.nam,.int .i64 ea.v.v.k,.int .i64 ea.v.v.n,aj ea.v.v.t,.slice ea.v.sA ea.v.v.s.length ea.v.sC,.slice ea.aA ea.args.length ea.aC,.slice ea.bA ea.src.length ea.bC]++dc ea.eff)]::[]) w36:=hA37
  refine bF ?_
  refine hK12 _ _ ?_
  refine wS hF fun K13 hK13=>vV O (df (new:=(.int .i64 (nxt m)::dc (dZ D l))) O hA37.q O 1 O xC (by rw [dP (dE D l)]; exact NV _) (by rw [List.drop_zero]; exact NZ (by rw [dP (dE D l)]; exact NV _))) fun a hF=>?_
  refine vR hF<|vV O (df (new:=(.int .i64 (nxt m)::dc (dZ D l))) O hA37.q O 2 O xC (by rw [dP (dE D l)]; exact NV _) (by rw [List.drop_zero]; exact NZ (by rw [dP (dE D l)]; exact NV _))) fun a hF=>?_
  refine vR hF<|vV O (H5 (b:=false) rfl af af af JP ae ae rfl rfl Oa N7 Oi uX AX (dE D l) (dE D l) rfl rfl (by simp))<|vX O fun a hF=>?_
  refine aN hF O O O O (ak rfl) ae _ (aW O O) (fun a hF=>?_)
  refine aN hF O O O O (ak rfl) ae _ (aW O O) (fun a hF=>?_)
  refine aN hF O O O O (ak rfl) ae _ (aW O O) (fun a hF=>?_)
  refine aN hF O O O O (ak rfl) ae _ (cO O Oq dJ O O i rfl hlt (ad2 _ _ _)) (fun a hF=>?_)
  refine aN hF O O O O (ak rfl) ae _ (fO (u:= .slice X l.length c) rfl (Hq.sub hA37.q (List.nil_subset _)) O hcc i (by rw [List.length_map]; exact hlt) rfl (by rw [List.getElem?_map,hp]; rfl) jV) (fun a hF=>?_)
  refine iq hF O O O (ak rfl) (fun K hK=>aB hF O ae Gn rfl rfl ?_)
  with_reducible refine (tC w0 _ ([row g 5 (dc (l++List.replicate 80 219))]::[row b7 49 (.int .i64 (nxt m)::dc (dZ D l))]::[row b12 49 (.int .i64 (nxt m)::dc (dZ D l))]::[row b4 31 ([.int .i64 ea.op,.int .i64 ea.num,.int .i64 ea.clk,aj ea.typ,aj ea.cas,aj ea.nam,.int .i64 ea.v.v.k,.int .i64 ea.v.v.n,aj ea.v.v.t,.slice ea.v.sA ea.v.v.s.length ea.v.sC,.slice ea.aA ea.args.length ea.aC,.slice ea.bA ea.src.length ea.bC]++dc ea.eff)]::[]) (some ⟨g,0,none⟩) X l (l.length+80) c (Rc.ofRow (i:=0) (off:=0) rfl (by rw [List.drop_zero]; exact List.take_length ..)) (hR.mono (List.nil_subset _)) (NV _) hA37 ag).mono ?_
  rintro e' w38 ⟨rfl,hA39⟩
  refine ⟨_,rfl,fun a hF=>hK _ _ ?_⟩
  replace hA39:Hp w0 ([row g 5 (dc (l++List.replicate 80 219))]::[row b7 49 (.int .i64 (nxt m)::dc (dZ D l))]::[row b12 49 (.int .i64 (nxt m)::dc (dZ D l))]::[row b4 31 ([.int .i64 ea.op,.int .i64 ea.num,.int .i64 ea.clk,aj ea.typ,aj ea.cas,aj ea.nam,.int .i64 ea.v.v.k,.int .i64 ea.v.v.n,aj ea.v.v.t,.slice ea.v.sA ea.v.v.s.length ea.v.sC,.slice ea.aA ea.args.length ea.aC,.slice ea.bA ea.src.length ea.bC]++dc ea.eff)]::[]) w38:=hA39
  refine aN hF O O O O (ak rfl) ae _ (fA O O O) (fun a hF=>?_)
  refine vR hF<|vV O (bf O O O O)<|vE hK13<|vF1 O fun a hF=>?_
  apply wp_skip
  refine hK9 _ _ ?_
  refine wp_region_lit ?_
  refine vR hF<|vX O<|vV O (bz O O O (NS _ ag))<|vX O fun a hF=>?_
  refine aI ?_
  rw [← hsA] at hF
  have hA40:Hp w0 ([row b7 49 (.int .i64 (nxt m)::dc (dZ D l))]::[row b12 49 (.int .i64 (nxt m)::dc (dZ D l))]::[row b4 31 ([.int .i64 ea.op,.int .i64 ea.num,.int .i64 ea.clk,aj ea.typ,aj ea.cas,aj ea.nam,.int .i64 ea.v.v.k,.int .i64 ea.v.v.n,aj ea.v.v.t,.slice ea.v.sA ea.v.v.s.length ea.v.sC,.slice ea.aA ea.args.length ea.aC,.slice ea.bA ea.src.length ea.bC]++dc ea.eff)]::[]) w38:=hpS 4 [1,2,3] [0] hA39 rfl
  exact ⟨i+1,ag,_,_,ag,dE D l,hF.keep [9,1,5,7,8] rfl,hA40⟩
end Go.Proofs.YtepbmdlgdaedpaaGreatDoor
