/- EventTables walked. -/
import Derived.Test.YtepbmdlgdaedpaaGreatDoorTbR
import Derived.Test.YtepbmdlgdaedpaaGreatDoorLawStates
/- EventTables walked. -/
namespace Go.Proofs.YtepbmdlgdaedpaaGreatDoor
open Go.RowKit Go.Dk
theorem yw:isRow Tryz.prog 49 33=true:=af
theorem IW:aP Tryz.prog 15:=⟨_,Tryz.func15,af,af⟩
theorem zN:aP Tryz.prog 23:=⟨_,Tryz.func23,af,af⟩
theorem IP:aP Tryz.prog 47:=⟨_,Tryz.func47,af,af⟩
theorem IM:aP Tryz.prog 51:=⟨_,Tryz.func51,af,af⟩
theorem IL:aP Tryz.prog 57:=⟨_,Tryz.func57,af,af⟩
theorem IK:aP Tryz.prog 58:=⟨_,Tryz.func58,af,af⟩
theorem IJ:aP Tryz.prog 60:=⟨_,Tryz.func60,af,af⟩
theorem II:aP Tryz.prog 61:=⟨_,Tryz.func61,af,af⟩
theorem IG:aP Tryz.prog 62:=⟨_,Tryz.func62,af,af⟩
abbrev mkD:List UInt8:=219::List.replicate 31 0
theorem MJ (w:World):(Instr.build 29 #[(0,.int .u8 219)]).run Tryz.prog w= .ok (.agg (dc mkD).toArray) w:=af
theorem J9 {w0:World} {R:List Seg} {A:Option Addr} {l m:List (List UInt8)} (h:Rc w0 R A (cel dc (l++m))):Rc w0 R A (mZ l):=by
 have:=h.take (cel dc l).length
 rwa [gp,List.take_left' rfl] at this
theorem Gg {ns:List (List UInt8)} {m:Nat} (h:tbE ns m=0):ns.length=m∧ns.length≤1000∧ns.all bP=true∧ns.Nodup:=by
 unfold tbE at h
 split at h
 ·cases h
 split at h
 ·cases h
 split at h
 ·cases h
 split at h
 ·rename_i h1 h2 h3 h4
  exact ⟨Classical.not_not.1 h1,ag,by simpa using h3,h4⟩
 ·cases h
theorem TbB.ps {n:Int} {ch:List UInt8} {clk:Int} {ns ds:List (List UInt8)} {ps:List Pr} (h0:tbE ns ds.length=0) (hds:∀ d∈ds,d.length=32) (hp:ps.Perm (ns.zip ds)):ps.length=ns.length∧∀ p∈ps,p.1.length≤64∧p.2.length=32:=by
 obtain ⟨h1,h2,h3,_⟩:=Gg h0
 refine ⟨by rw [hp.length_eq,List.length_zip]; omega,fun p hp2=>?_⟩
 have h4:=hp.subset hp2
 exact ⟨fB (List.all_eq_true.1 h3 _ (List.of_mem_zip h4).1),hds _ (List.of_mem_zip h4).2⟩
theorem TbB.len {n:Int} {ch:List UInt8} {clk:Int} {ns ds:List (List UInt8)} {out:List UInt8} (h:TbB n ch clk ns ds out) (hch:ch.length=32) (hds:∀ d∈ds,d.length=32):out.length≤98100:=by
 unfold TbB at h
 split at h
 ·rename_i h0
  obtain ⟨ps,hp,_,rfl⟩:=h
  obtain ⟨q1,q2⟩:=TbB.ps (n:=n) (ch:=ch) (clk:=clk) h0 hds hp
  have q3:=sZ q2
  have q4:=(Gg h0).2.1
  unfold BH
  simp only [List.length_append,aY,hch]
  omega
 ·rw [h]; decide
set_option maxRecDepth 100000 in
set_option maxHeartbeats 8000000 in
theorem BB (w0:World) (n:Int) (ch:List UInt8) (clk:Int) (A1:Option Addr) (ns:List (List UInt8)) (c1:Nat) (A2:Option Addr) (ds:List (List UInt8)) (c2:Nat) (hTR:Jz w0) (hTD:Tab w0) (hT:rq w0) (hch:ch.length=32) (h1:Rc w0 [] A1 (ns.map ak)) (h2:Rc w0 [] A2 (mZ ds)) (hds:∀ d∈ds,d.length=32) (hz1:ns.length<8796093022000) (hz2:ds.length*32≤140737488351232):Calls Tryz.prog 12 #[.agg (.int .i64 n::dc ch:List Value).toArray,.int .i64 clk,.slice A1 ns.length c1,.slice A2 ds.length c2] w0 fun e W'=>e= .returned (.bool true)∧At w0 [] W':=by
 have hA:Hp w0 [] w0:=Hp.start w0
 have hdz:ds.length<8796093022000:=by omega
 have hds1:∀ x∈ds,(dc x).length=32:=fun x hx=>by rw [aI]; exact hds x hx
 refine aQ Tryz.func12 O Tryz.ntmps12 ai (fun a hF=>?_)
 refine wp_seq_k fun K1 hK1=>wp_region_lit ?_
 refine az O (fun K hK=>fU (cs:= .int .i64 n::dc ch) hF O ae rfl hA O (fun b1 w2 a hb1 hF hA3=>hK _ _ ?_))
 refine vR hF<|vX O<|vE hK1<|wT fun K2 hK2=>vX O fun a hF=>?_
 refine az O (fun K hK=>ay hF O ae IP rfl rfl ?_)
 with_reducible refine (qV w0 _ ([row b1 49 (.int .i64 n::dc ch)]::[]) A1 ns c1 mkS (by rw [← lW ns]; exact h1.mono (List.nil_subset _)) (fun _ _=>rfl) rfl hA3 ag).mono ?_
 rintro e' w4 ⟨g1,rfl,hA5⟩
 refine ⟨_,rfl,fun a hF=>hK _ _ ?_⟩
 replace hA5:Hp w0 ([row g1 9 (cel cS (ns++List.replicate 80 mkS))]::[row b1 49 (.int .i64 n::dc ch)]::[]) w4:=hA5
 obtain ⟨Q1,hQ1⟩:∃ X:Seg,X=[row g1 9 (cel cS (ns++List.replicate 80 mkS))]:=⟨_,rfl⟩
 have hR1:Rc w0 [Q1] (some ⟨g1,0,none⟩) (cel cS (ns++List.replicate 80 mkS)):=by rw [hQ1]; exact Rc.ofRow (i:=0) (off:=0) rfl (by rw [List.drop_zero]; exact List.take_length ..)
 rw [← hQ1] at hA5
 refine vR hF<|vX O<|vE hK2<|wT fun K3 hK3=>vX O<|vV O (fV (qs := #[(0,.int .u8 219)]) O O MJ) fun a hF=>?_
 refine az O (fun K hK=>ay hF O ae IJ rfl rfl ?_)
 with_reducible refine (qW w0 _ (Q1::[row b1 49 (.int .i64 n::dc ch)]::[]) A2 ds c2 mkD (h2.mono (List.nil_subset _)) hds1 rfl hA5 hdz).mono ?_
 rintro e' w6 ⟨g2,rfl,hA7⟩
 refine ⟨_,rfl,fun a hF=>hK _ _ ?_⟩
 replace hA7:Hp w0 ([row g2 29 (cel dc (ds++List.replicate 80 mkD))]::Q1::[row b1 49 (.int .i64 n::dc ch)]::[]) w6:=hA7
 obtain ⟨Q2,hQ2⟩:∃ X:Seg,X=[row g2 29 (cel dc (ds++List.replicate 80 mkD))]:=⟨_,rfl⟩
 have hR2:Rc w0 [Q2] (some ⟨g2,0,none⟩) (cel dc (ds++List.replicate 80 mkD)):=by rw [hQ2]; exact Rc.ofRow (i:=0) (off:=0) rfl (by rw [List.drop_zero]; exact List.take_length ..)
 rw [← hQ2] at hA7
 refine vR hF<|vX O<|vE hK3<|wQ fun K4 hK4 a hF=>?_
 have hL1:Rc w0 [Q1,Q2] (some ⟨g1,0,none⟩) (ns.map ak):=by rw [lW]; exact (J8 hR1).mono (List.cons_subset.2 ⟨by simp,List.nil_subset _⟩)
 have hL2:Rc w0 [Q1,Q2] (some ⟨g2,0,none⟩) (mZ ds):=(J9 hR2).mono (List.cons_subset.2 ⟨by simp,List.nil_subset _⟩)
 obtain ⟨k,hk⟩:∃ k,k=tbE ns ds.length:=⟨_,rfl⟩
 refine aT 15 [10,15] [0,1,2,3,4,5,6,7,8,9,10,11,12,13,14,15] _ af af (Hq.drew hA7.q) ?_
 have hA8:=Hl.drew hA7
 refine pR hF<|pV O O (fun x hx=>dU (new:=(.int .i64 n::dc ch)) O hx O 2 O yw (by rw [uh hch]; exact P5 _) (by rw [List.drop_zero]; exact P8 (by rw [uh hch]; exact P5 _))) fun a hF=>?_
 refine pR hF<|pX O O<|pX O O<|pX O O<|pW O O (fun _=>aU O PY O O)<|pW O O (fun _=>jf O PY wL O (.none 0) (.some rfl rfl) (PU _) ag kF)<|pX O O<|pX O O<|pW O O (fun _=>aU O PS O O)<|pW O O (fun _=>jf O PS ry O (.none 0) (.some rfl rfl) (PU _) ag kF) fun a hF=>?_
 refine iE O O O (fun K hK=>ay hF O ae L6 rfl rfl ?_)
 with_reducible refine (Ih n ch clk (some ⟨g1,0,none⟩) ns (ns.length+80) (some ⟨g2,0,none⟩) ds (ds.length+80) _ hT hch hL1 hL2 hds (List.cons_subset.2 ⟨(P7 _ ((P6 ..))),List.cons_subset.2 ⟨((P6 ..)),List.nil_subset _⟩⟩) hA8).mono ?_
 rintro e' w9 ⟨vE1,ZE1,X,rfl,hB1,hZE1,hA10⟩
 refine ⟨_,rfl,fun a hF=>hK _ _ (fun _=>?_) ?_⟩
 ·exact (qT hA10)
 replace hA10:Hp w0 (ZE1::Q2::Q1::[row b1 49 (.int .i64 n::dc ch)]::[]) w9:=hA10
 rw [← hk] at hF
 have hXl:=hB1.len hch hds
 obtain ⟨_,AE1,cE1,rfl,hcE1,hRE1⟩:=hZE1.rd (w0:=w0) (R:=[ZE1]) (P6 ..)
 refine pR hF<|pX O O<|pW O O (fun _=>aS (v:= .slice AE1 X.length cE1) rfl rfl rfl)<|pW O O (fun _=>aS (v:= .int .i64 ((k:Nat):Int)) O O O)<|pX O O fun a hF=>?_
 refine dZ hF O O O O ae _ (jL O O) (fun h=>absurd h ae) (fun a hF=>?_)
 refine bG ?_
 refine hK4 _ _ ?_
 refine wS hF fun K5 hK5=>vV O (dU (new:=(.int .i64 n::dc ch)) O hA10.q O 3 O yw (by rw [uh hch]; exact P5 _) (by rw [List.drop_zero]; exact P8 (by rw [uh hch]; exact P5 _))) fun a hF=>?_
 refine vR hF<|vX O<|vX O<|vX O fun a hF=>?_
 refine az O (fun K hK=>ay hF O ae II rfl rfl ?_)
 with_reducible refine (Gp n ch clk A1 ns c1 A2 ds c2 _ hTR hch h1 h2 hds (List.nil_subset _) hA10).mono ?_
 rintro e' w11 ⟨vE2,ZE2,X2,rfl,hB2,hZE2,hA12⟩
 refine ⟨_,rfl,fun a hF=>hK _ _ ?_⟩
 replace hA12:Hp w0 (ZE2::ZE1::Q2::Q1::[row b1 49 (.int .i64 n::dc ch)]::[]) w11:=hA12
 rw [← hk] at hF
 obtain rfl:=hB1.uniq hB2
 obtain ⟨_,AE2,cE2,rfl,hcE2,hRE2⟩:=hZE2.rd (w0:=w0) (R:=[ZE2]) (P6 ..)
 refine vR hF<|vX O<|vV O (aS (v:= .slice AE2 X.length cE2) rfl rfl rfl)<|vV O (aS (v:= .int .i64 ((k:Nat):Int)) O O O)<|vX O<|vX O<|vE hK5<|wQ fun K6 hK6=>wT fun K7 hK7=>vX O<|vX O<|vV O (aB O O O O (fG rfl))<|vX O fun a hF=>?_
 refine aK hF O O O O (aj rfl) ae _ (aV O O) (fun a hF=>?_)
 refine aK hF O O O O (aj rfl) ae _ (aV O O) (fun a hF=>?_)
 refine dY hF O O O (aj rfl) (fun K hK=>ay hF O ae zN rfl rfl ?_)
 with_reducible refine (zC _ (hRE1.mono (List.cons_subset.2 ⟨(P7 _ ((P6 ..))),List.nil_subset _⟩)) (hRE2.mono (List.cons_subset.2 ⟨((P6 ..)),List.nil_subset _⟩)) ag hA12).mono ?_
 rintro e' w13 ⟨rfl,hA14⟩
 refine ⟨_,rfl,fun a hF=>hK _ _ ?_⟩
 replace hA14:Hp w0 (ZE2::ZE1::Q2::Q1::[row b1 49 (.int .i64 n::dc ch)]::[]) w13:=hA14
 rw [decide_eq_true rfl] at hF
 refine aK hF O O O O (aj rfl) ae _ (dK O O O) (fun a hF=>?_)
 refine vR hF<|vV O (aZ O O O O)<|vX O fun a hF=>?_
 refine aK hF O O O O (aj rfl) ae _ (aV O O) (fun a hF=>?_)
 refine dY hF O O O (aj rfl) (fun K hK=>ay hF O ae IL rfl rfl ?_)
 with_reducible refine (BL AE1 X cE1 _ hRE1 hcE1 ag hTD (List.cons_subset.2 ⟨(P7 _ ((P6 ..))),List.nil_subset _⟩) hA14).mono ?_
 rintro e' w15 ⟨rfl,hA16⟩
 refine ⟨_,rfl,fun a hF=>hK _ _ ?_⟩
 replace hA16:Hp w0 (ZE2::ZE1::Q2::Q1::[row b1 49 (.int .i64 n::dc ch)]::[]) w15:=hA16
 refine aK hF O O O O (aj rfl) ae _ (aV O O) (fun a hF=>?_)
 refine dY hF O O O (aj rfl) (fun K hK=>ay hF O ae IK rfl rfl ?_)
 with_reducible refine (AP AE2 X cE2 _ hRE2 hcE2 ag (List.cons_subset.2 ⟨((P6 ..)),List.nil_subset _⟩) hA16).mono ?_
 rintro e' w17 ⟨rfl,hA18⟩
 refine ⟨_,rfl,fun a hF=>hK _ _ ?_⟩
 replace hA18:Hp w0 (ZE2::ZE1::Q2::Q1::[row b1 49 (.int .i64 n::dc ch)]::[]) w17:=hA18
 refine aK hF O O O O (aj rfl) ae _ (Cj (X:=ofL 32 8 X) (Y:=ofL 32 8 X) rfl PV PW Aa af rfl rfl (jE _ _ _) (jE _ _ _) (by rw [decide_eq_true rfl] <;> rfl)) (fun a hF=>?_)
 refine vR hF<|vV O (aZ O O O O)<|vX O fun a hF=>?_
 refine aK hF O O O O (aj rfl) ae _ (aV O O) (fun a hF=>?_)
 refine aK hF O O O O (aj rfl) ae _ (aV O O) (fun a hF=>?_)
 refine dY hF O O O (aj rfl) (fun K hK=>ay hF O ae zN rfl rfl ?_)
 with_reducible refine (zC _ (hRE1.mono (List.cons_subset.2 ⟨(P7 _ ((P6 ..))),List.nil_subset _⟩)) (hRE2.mono (List.cons_subset.2 ⟨((P6 ..)),List.nil_subset _⟩)) ag hA18).mono ?_
 rintro e' w19 ⟨rfl,hA20⟩
 refine ⟨_,rfl,fun a hF=>hK _ _ ?_⟩
 replace hA20:Hp w0 (ZE2::ZE1::Q2::Q1::[row b1 49 (.int .i64 n::dc ch)]::[]) w19:=hA20
 rw [decide_eq_true rfl] at hF
 refine aK hF O O O O (aj rfl) ae _ (dK O O O) (fun a hF=>?_)
 refine vR hF<|vV O (aZ O O O O)<|vE hK7<|vF1 O<|wKp hK6<|wT fun K8 hK8=>vX O<|vX O fun a hF=>?_
 refine az O (fun K hK=>ay hF O ae IM rfl rfl ?_)
 with_reducible refine (qi w0 _ (ZE2::ZE1::Q2::Q1::[row b1 49 (.int .i64 n::dc ch)]::[]) (some ⟨g1,0,none⟩) A1 ns (ns.length+80) c1 mkS (hR1.mono (List.cons_subset.2 ⟨(P7 _ (P7 _ (P7 _ ((P6 ..))))),List.nil_subset _⟩)) (by rw [← lW ns]; exact h1.mono (List.nil_subset _)) (fun _ _=>rfl) rfl (P5 _) hA20 ag).mono ?_
 rintro e' w21 ⟨rfl,hA22⟩
 refine ⟨_,rfl,fun a hF=>hK _ _ ?_⟩
 replace hA22:Hp w0 (ZE2::ZE1::Q2::Q1::[row b1 49 (.int .i64 n::dc ch)]::[]) w21:=hA22
 refine vR hF<|vX O fun a hF=>?_
 refine aK hF O O O O (aj rfl) ae _ (aV O O) (fun a hF=>?_)
 refine aK hF O O O O (aj rfl) ae _ (aV O O) (fun a hF=>?_)
 refine aK hF O O O O (aj rfl) ae _ (fV (qs := #[(0,.int .u8 219)]) O O MJ) (fun a hF=>?_)
 refine dY hF O O O (aj rfl) (fun K hK=>ay hF O ae IG rfl rfl ?_)
 with_reducible refine (qj w0 _ (ZE2::ZE1::Q2::Q1::[row b1 49 (.int .i64 n::dc ch)]::[]) (some ⟨g2,0,none⟩) A2 ds (ds.length+80) c2 mkD (hR2.mono (List.cons_subset.2 ⟨(P7 _ (P7 _ ((P6 ..)))),List.nil_subset _⟩)) (h2.mono (List.nil_subset _)) hds1 rfl (P5 _) hA22 hdz).mono ?_
 rintro e' w23 ⟨rfl,hA24⟩
 refine ⟨_,rfl,fun a hF=>hK _ _ ?_⟩
 replace hA24:Hp w0 (ZE2::ZE1::Q2::Q1::[row b1 49 (.int .i64 n::dc ch)]::[]) w23:=hA24
 refine vR hF<|vV O (bD O O O O)<|vX O fun a hF=>?_
 refine dY hF O O O (aj rfl) (fun K hK=>ay hF O ae IW rfl rfl ?_)
 with_reducible refine (Ik _ hT hA24).mono ?_
 rintro e' w25 ⟨rfl,hA26⟩
 refine ⟨_,rfl,fun a hF=>hK _ _ ?_⟩
 replace hA26:Hp w0 (ZE2::ZE1::Q2::Q1::[row b1 49 (.int .i64 n::dc ch)]::[]) w25:=hA26
 refine vR hF<|vV O (bD O O O O)<|vX O<|vE hK8 fun a hF=>?_
 apply wp_ret
 refine aO hF Tryz.results12 O ?_
 have hA27:Hp w0 ([]) w25:=hpS 5 [] [0,1,2,3,4] hA26 rfl
 exact ⟨rfl,hA27.at0⟩
end Go.Proofs.YtepbmdlgdaedpaaGreatDoor
