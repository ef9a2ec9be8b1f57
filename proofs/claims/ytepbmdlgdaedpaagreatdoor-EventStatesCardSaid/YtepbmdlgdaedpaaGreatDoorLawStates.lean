/- EventStates walked. -/
import Derived.Test.YtepbmdlgdaedpaaGreatDoorEnt
import Derived.Test.YtepbmdlgdaedpaaGreatDoorSt3
import Derived.Test.YtepbmdlgdaedpaaGreatDoorKp
import Derived.Test.YtepbmdlgdaedpaaGreatDoorW1
/- EventStates walked. -/
namespace Go.Proofs.YtepbmdlgdaedpaaGreatDoor
open Go.RowKit Go.Dk
theorem yT:isRow Tryz.prog 49 33=true:=af
theorem Jl:aP Tryz.prog 15:=⟨_,Tryz.func15,af,af⟩
theorem Ah:aP Tryz.prog 23:=⟨_,Tryz.func23,af,af⟩
theorem lU:aP Tryz.prog 47:=⟨_,Tryz.func47,af,af⟩
theorem lT:aP Tryz.prog 51:=⟨_,Tryz.func51,af,af⟩
theorem Jf:aP Tryz.prog 55:=⟨_,Tryz.func55,af,af⟩
theorem Je:aP Tryz.prog 56:=⟨_,Tryz.func56,af,af⟩
theorem Jd:aP Tryz.prog 57:=⟨_,Tryz.func57,af,af⟩
theorem Jc:aP Tryz.prog 58:=⟨_,Tryz.func58,af,af⟩
theorem Jb:aP Tryz.prog 59:=⟨_,Tryz.func59,af,af⟩
theorem CZ {α:Type} {a b c d e f g:α} {R:List α} (h1:a∈R) (h2:b∈R) (h3:c∈R) (h4:d∈R) (h5:e∈R) (h6:f∈R) (h7:g∈R):[a,b,c,d,e,f,g]⊆R:=List.cons_subset.2 ⟨h1,List.cons_subset.2 ⟨h2,List.cons_subset.2 ⟨h3,List.cons_subset.2 ⟨h4,List.cons_subset.2 ⟨h5,List.cons_subset.2 ⟨h6,List.cons_subset.2 ⟨h7,List.nil_subset _⟩⟩⟩⟩⟩⟩⟩
theorem nX {w0:World} {R:List Seg} {A:Option Addr} {l m:List (List UInt8)} (h:Rc w0 R A (cel cS (l++m))):Rc w0 R A (cel cS l):=by
 have:=h.take (cel cS l).length
 rwa [jh,List.take_left' rfl] at this
theorem NP {a b:CA} {n:Int} {ch:List UInt8} {l1 l2 l3:List (List UInt8)} (h:CEq a b):stX a n ch l1 l2 l3=stX b n ch l1 l2 l3:=by
 obtain ⟨_,h2,_,_,h5,h6,h7,h8⟩:=h
 unfold stX
 rw [h2,h5,h6,h7,h8]
theorem Kq {c:CA} {n:Int} {ch:List UInt8} {l1 l2 l3:List (List UInt8)} (hch:ch.length=32):(stX c n ch l1 l2 l3).length≤4300000:=by
 by_cases h:stE c.typ (l1.map (jL c.bind)) l1.length l2.length l3.length=0
 ·rw [A8 h]
  unfold stE at h
  by_cases h1:bZ c.typ=false
  ·rw [if_pos h1] at h; cases h
  rw [if_neg h1] at h
  by_cases h2:64<max (max l1.length l2.length) l3.length
  ·rw [if_pos h2] at h; cases h
  rw [if_neg h2] at h
  have q1:=kS (iH h)
  rw [List.length_map] at q1
  have q2:=fH (w:=c.typ) (by simpa using h1)
  unfold stB
  simp only [List.length_append,aW,eU,hch,mG (k:=1) (fun x=>aW 1 x),mG (k:=1) (f:=jJ) (fun _=>rfl),List.length_map]
  omega
 ·rw [oN h]; decide
set_option maxRecDepth 100000 in
set_option maxHeartbeats 16000000 in
theorem BO (w0:World) (n:Int) (ch:List UInt8) (ca:CA) (A1:Option Addr) (l1:List (List UInt8)) (c1:Nat) (A2:Option Addr) (l2:List (List UInt8)) (c2:Nat) (A3:Option Addr) (l3:List (List UInt8)) (c3:Nat) (hTR:JU w0) (hTD:Tab w0) (hT:rU w0) (hch:ch.length=32) (hC:ca.Ok w0 []) (hvz:∀ b∈ca.vals,b.2.v.s.length<8796093022000) (hv72:ca.vals.length*72≤140737488351232) (hoz:ca.opn.length<8796093022000) (hcz:ca.clo.length<8796093022000) (hrz:ca.rea.length<8796093022000) (h1:Rc w0 [] A1 (l1.map ak)) (h2:Rc w0 [] A2 (l2.map ak)) (h3:Rc w0 [] A3 (l3.map ak)) (hz1:l1.length<8796093022000) (hz2:l2.length<8796093022000) (hz3:l3.length<8796093022000):Calls Tryz.prog 11 #[.agg (.int .i64 n::dc ch:List Value).toArray,.agg ca.cells.toArray,.slice A1 l1.length c1,.slice A2 l2.length c2,.slice A3 l3.length c3] w0 fun e W'=>e= .returned (.bool true)∧At w0 [] W':=by
 have hA:Hp w0 [] w0:=Hp.start w0
 have h32:=hC.h32
 refine aQ Tryz.func11 O Tryz.ntmps11 ai (fun a hF=>?_)
 refine wp_seq_k fun K1 hK1=>wp_region_lit ?_
 refine ax O (fun K hK=>dL (cs:= .int .i64 n::dc ch) hF O ae rfl hA O (fun b1 w2 a hb1 hF hA3=>hK _ _ ?_))
 refine ax O (fun K hK=>dL (cs:=ca.cells) hF O ae rfl hA3 O (fun b4 w5 a hb4 hF hA6=>hK _ _ ?_))
 refine vR hF<|vX O<|vE hK1<|wT fun K2 hK2=>vX O fun a hF=>?_
 refine ax O (fun K hK=>ay hF O ae lU rfl rfl ?_)
 with_reducible refine (fQ w0 _ ([row b4 52 ca.cells]::[row b1 49 (.int .i64 n::dc ch)]::[]) A1 l1 c1 mkS (by rw [← eu l1]; exact h1.mono (List.nil_subset _)) (fun _ _=>rfl) rfl hA6 ag).mono ?_
 rintro e' w7 ⟨g1,rfl,hA8⟩
 refine ⟨_,rfl,fun a hF=>hK _ _ ?_⟩
 replace hA8:Hp w0 ([row g1 9 (cel cS (l1++List.replicate 80 mkS))]::[row b4 52 ca.cells]::[row b1 49 (.int .i64 n::dc ch)]::[]) w7:=hA8
 obtain ⟨Q1,hQ1⟩:∃ X:Seg,X=[row g1 9 (cel cS (l1++List.replicate 80 mkS))]:=⟨_,rfl⟩
 have hR1:Rc w0 [Q1] (some ⟨g1,0,none⟩) (cel cS (l1++List.replicate 80 mkS)):=by rw [hQ1]; exact Rc.ofRow (i:=0) (off:=0) rfl (by rw [List.drop_zero]; exact List.take_length ..)
 rw [← hQ1] at hA8
 refine vR hF<|vX O<|vE hK2<|wT fun K3 hK3=>vX O fun a hF=>?_
 refine ax O (fun K hK=>ay hF O ae lU rfl rfl ?_)
 with_reducible refine (fQ w0 _ (Q1::[row b4 52 ca.cells]::[row b1 49 (.int .i64 n::dc ch)]::[]) A2 l2 c2 mkS (by rw [← eu l2]; exact h2.mono (List.nil_subset _)) (fun _ _=>rfl) rfl hA8 ag).mono ?_
 rintro e' w9 ⟨g2,rfl,hA10⟩
 refine ⟨_,rfl,fun a hF=>hK _ _ ?_⟩
 replace hA10:Hp w0 ([row g2 9 (cel cS (l2++List.replicate 80 mkS))]::Q1::[row b4 52 ca.cells]::[row b1 49 (.int .i64 n::dc ch)]::[]) w9:=hA10
 obtain ⟨Q2,hQ2⟩:∃ X:Seg,X=[row g2 9 (cel cS (l2++List.replicate 80 mkS))]:=⟨_,rfl⟩
 have hR2:Rc w0 [Q2] (some ⟨g2,0,none⟩) (cel cS (l2++List.replicate 80 mkS)):=by rw [hQ2]; exact Rc.ofRow (i:=0) (off:=0) rfl (by rw [List.drop_zero]; exact List.take_length ..)
 rw [← hQ2] at hA10
 refine vR hF<|vX O<|vE hK3<|wT fun K4 hK4=>vX O fun a hF=>?_
 refine ax O (fun K hK=>ay hF O ae lU rfl rfl ?_)
 with_reducible refine (fQ w0 _ (Q2::Q1::[row b4 52 ca.cells]::[row b1 49 (.int .i64 n::dc ch)]::[]) A3 l3 c3 mkS (by rw [← eu l3]; exact h3.mono (List.nil_subset _)) (fun _ _=>rfl) rfl hA10 ag).mono ?_
 rintro e' w11 ⟨g3,rfl,hA12⟩
 refine ⟨_,rfl,fun a hF=>hK _ _ ?_⟩
 replace hA12:Hp w0 ([row g3 9 (cel cS (l3++List.replicate 80 mkS))]::Q2::Q1::[row b4 52 ca.cells]::[row b1 49 (.int .i64 n::dc ch)]::[]) w11:=hA12
 obtain ⟨Q3,hQ3⟩:∃ X:Seg,X=[row g3 9 (cel cS (l3++List.replicate 80 mkS))]:=⟨_,rfl⟩
 have hR3:Rc w0 [Q3] (some ⟨g3,0,none⟩) (cel cS (l3++List.replicate 80 mkS)):=by rw [hQ3]; exact Rc.ofRow (i:=0) (off:=0) rfl (by rw [List.drop_zero]; exact List.take_length ..)
 rw [← hQ3] at hA12
 refine vR hF<|vX O<|vE hK4<|wT fun K5 hK5=>vV O (yf 36 rfl QL O nU O)<|vV O (aX (u:= .slice ca.oA ca.opn.length ca.oC) rfl hA12.q O 3 O (fB h32 1) nZ) fun a hF=>?_
 refine ax O (fun K hK=>ay hF O ae lU rfl rfl ?_)
 with_reducible refine (fQ w0 _ (Q3::Q2::Q1::[row b4 52 ca.cells]::[row b1 49 (.int .i64 n::dc ch)]::[]) ca.oA ca.opn ca.oC mkS (by rw [← eu ca.opn]; exact hC.opr.mono (List.nil_subset _)) (fun _ _=>rfl) rfl hA12 ag).mono ?_
 rintro e' w13 ⟨g4,rfl,hA14⟩
 refine ⟨_,rfl,fun a hF=>hK _ _ ?_⟩
 replace hA14:Hp w0 ([row g4 9 (cel cS (ca.opn++List.replicate 80 mkS))]::Q3::Q2::Q1::[row b4 52 ca.cells]::[row b1 49 (.int .i64 n::dc ch)]::[]) w13:=hA14
 obtain ⟨Q4,hQ4⟩:∃ X:Seg,X=[row g4 9 (cel cS (ca.opn++List.replicate 80 mkS))]:=⟨_,rfl⟩
 have hR4:Rc w0 [Q4] (some ⟨g4,0,none⟩) (cel cS (ca.opn++List.replicate 80 mkS)):=by rw [hQ4]; exact Rc.ofRow (i:=0) (off:=0) rfl (by rw [List.drop_zero]; exact List.take_length ..)
 rw [← hQ4] at hA14
 refine vR hF<|vX O<|vE hK5<|wT fun K6 hK6=>vV O (yf 37 rfl QL O nU O)<|vV O (aX (u:= .slice ca.cA ca.clo.length ca.cC) rfl hA14.q O 4 O (fB h32 2) nZ) fun a hF=>?_
 refine ax O (fun K hK=>ay hF O ae lU rfl rfl ?_)
 with_reducible refine (fQ w0 _ (Q4::Q3::Q2::Q1::[row b4 52 ca.cells]::[row b1 49 (.int .i64 n::dc ch)]::[]) ca.cA ca.clo ca.cC mkS (by rw [← eu ca.clo]; exact hC.clr.mono (List.nil_subset _)) (fun _ _=>rfl) rfl hA14 ag).mono ?_
 rintro e' w15 ⟨g5,rfl,hA16⟩
 refine ⟨_,rfl,fun a hF=>hK _ _ ?_⟩
 replace hA16:Hp w0 ([row g5 9 (cel cS (ca.clo++List.replicate 80 mkS))]::Q4::Q3::Q2::Q1::[row b4 52 ca.cells]::[row b1 49 (.int .i64 n::dc ch)]::[]) w15:=hA16
 obtain ⟨Q5,hQ5⟩:∃ X:Seg,X=[row g5 9 (cel cS (ca.clo++List.replicate 80 mkS))]:=⟨_,rfl⟩
 have hR5:Rc w0 [Q5] (some ⟨g5,0,none⟩) (cel cS (ca.clo++List.replicate 80 mkS)):=by rw [hQ5]; exact Rc.ofRow (i:=0) (off:=0) rfl (by rw [List.drop_zero]; exact List.take_length ..)
 rw [← hQ5] at hA16
 refine vR hF<|vX O<|vE hK6<|wT fun K7 hK7=>vV O (yf 38 rfl QL O nU O)<|vV O (aX (u:= .slice ca.rA ca.rea.length ca.rC) rfl hA16.q O 5 O (fB h32 3) nZ) fun a hF=>?_
 refine ax O (fun K hK=>ay hF O ae lU rfl rfl ?_)
 with_reducible refine (fQ w0 _ (Q5::Q4::Q3::Q2::Q1::[row b4 52 ca.cells]::[row b1 49 (.int .i64 n::dc ch)]::[]) ca.rA ca.rea ca.rC mkS (by rw [← eu ca.rea]; exact hC.rer.mono (List.nil_subset _)) (fun _ _=>rfl) rfl hA16 ag).mono ?_
 rintro e' w17 ⟨g6,rfl,hA18⟩
 refine ⟨_,rfl,fun a hF=>hK _ _ ?_⟩
 replace hA18:Hp w0 ([row g6 9 (cel cS (ca.rea++List.replicate 80 mkS))]::Q5::Q4::Q3::Q2::Q1::[row b4 52 ca.cells]::[row b1 49 (.int .i64 n::dc ch)]::[]) w17:=hA18
 obtain ⟨Q6,hQ6⟩:∃ X:Seg,X=[row g6 9 (cel cS (ca.rea++List.replicate 80 mkS))]:=⟨_,rfl⟩
 have hR6:Rc w0 [Q6] (some ⟨g6,0,none⟩) (cel cS (ca.rea++List.replicate 80 mkS)):=by rw [hQ6]; exact Rc.ofRow (i:=0) (off:=0) rfl (by rw [List.drop_zero]; exact List.take_length ..)
 rw [← hQ6] at hA18
 refine vR hF<|vX O<|vE hK7<|wT fun K8 hK8=>vV O (cO (new:=ca.cells) rfl hA18.q O 6 O yS (by rw [dY h32]; exact Qw _) (by rw [List.drop_zero]; exact Qz (by rw [dY h32]; exact Qw _))) fun a hF=>?_
 refine ax O (fun K hK=>ay hF O ae Jf rfl rfl ?_)
 with_reducible refine (EU ca _ hC hvz hv72 hoz hcz hrz (List.nil_subset _) hA18).mono ?_
 rintro e' w19 ⟨cb,Z,rfl,hEb,hCb,hbo,hbc,hbr,hA20⟩
 refine ⟨_,rfl,fun a hF=>hK _ _ ?_⟩
 replace hA20:Hp w0 (Z::Q6::Q5::Q4::Q3::Q2::Q1::[row b4 52 ca.cells]::[row b1 49 (.int .i64 n::dc ch)]::[]) w19:=hA20
 have hb32:cb.ch.length=32:=hCb.h32
 refine ax O (fun K hK=>dB hF O ae rfl hA20 (F9) (fun b21 w22 a hb21 hF hA23=>hK _ _ ?_))
 refine ax O (fun K hK=>bu (new:=cb.cells) hF O O hA23 O O 0 O (by rw [dY hb32]; rfl) I9 Gy (fun w24 hA25=>hK _ _ ?_))
 replace hA25:Hp w0 ([row b21 52 cb.cells]::Z::Q6::Q5::Q4::Q3::Q2::Q1::[row b4 52 ca.cells]::[row b1 49 (.int .i64 n::dc ch)]::[]) w24:=hA25
 refine aK<|hK8 _ _ ?_
 refine wS hF fun K9 hK9=>vX O<|vV O (yf 36 rfl QL O nU O)<|vV O (aX (u:= .slice ca.oA ca.opn.length ca.oC) rfl hA25.q O 8 O (fB h32 1) nZ)<|vV O (aT O Qr O O)<|vV O (iw O Qr xq O (.none 0) (.some rfl rfl) (Qs _) ag iV)<|vV O (yf 36 rfl QL O nU O) fun a hF=>?_
 refine ax O (fun K hK=>bW (off:=35+1) hF O O hA25 O O 0 O (by rw [dY hb32]; decide) rfl nU (fun w26 hA27=>hK _ _ ?_))
 replace hA27:Hp w0 ([row b21 52 (cb.cells.set (35+1) (.slice (some ⟨g4,0,none⟩) ca.opn.length (ca.opn.length+80)))]::Z::Q6::Q5::Q4::Q3::Q2::Q1::[row b4 52 ca.cells]::[row b1 49 (.int .i64 n::dc ch)]::[]) w26:=hA27
 obtain ⟨c11,hc11⟩:∃ q:CA,q=⟨cb.name,cb.typ,cb.cnt,cb.ch,cb.vals,cb.vA,cb.vC,ca.opn,(some ⟨g4,0,none⟩),(ca.opn.length+80),cb.clo,cb.cA,cb.cC,cb.rea,cb.rA,cb.rC⟩:=⟨_,rfl⟩
 have hx1:c11.ch.length=32:=by rw [hc11]; exact hb32
 have hA28:Hp w0 ([row b21 52 c11.cells]::Z::Q6::Q5::Q4::Q3::Q2::Q1::[row b4 52 ca.cells]::[row b1 49 (.int .i64 n::dc ch)]::[]) w26:=(by have h9:=hA27; rw [mM hb32] at h9; rw [hc11]; exact h9)
 refine aK<|hK9 _ _ ?_
 refine wS hF fun K10 hK10=>vX O<|vV O (yf 37 rfl QL O nU O)<|vV O (aX (u:= .slice ca.cA ca.clo.length ca.cC) rfl hA28.q O 8 O (fB h32 2) nZ)<|vV O (aT O Qr O O)<|vV O (iw O Qr xq O (.none 0) (.some rfl rfl) (Qs _) ag iV)<|vV O (yf 37 rfl QL O nU O) fun a hF=>?_
 refine ax O (fun K hK=>bW (off:=35+2) hF O O hA28 O O 0 O (by rw [dY hx1]; decide) rfl nU (fun w29 hA30=>hK _ _ ?_))
 replace hA30:Hp w0 ([row b21 52 (c11.cells.set (35+2) (.slice (some ⟨g5,0,none⟩) ca.clo.length (ca.clo.length+80)))]::Z::Q6::Q5::Q4::Q3::Q2::Q1::[row b4 52 ca.cells]::[row b1 49 (.int .i64 n::dc ch)]::[]) w29:=hA30
 obtain ⟨c12,hc12⟩:∃ q:CA,q=⟨c11.name,c11.typ,c11.cnt,c11.ch,c11.vals,c11.vA,c11.vC,c11.opn,c11.oA,c11.oC,ca.clo,(some ⟨g5,0,none⟩),(ca.clo.length+80),c11.rea,c11.rA,c11.rC⟩:=⟨_,rfl⟩
 have hx2:c12.ch.length=32:=by rw [hc12]; exact hx1
 have hA31:Hp w0 ([row b21 52 c12.cells]::Z::Q6::Q5::Q4::Q3::Q2::Q1::[row b4 52 ca.cells]::[row b1 49 (.int .i64 n::dc ch)]::[]) w29:=(by have h9:=hA30; rw [mM hx1] at h9; rw [hc12]; exact h9)
 refine aK<|hK10 _ _ ?_
 refine wS hF fun K11 hK11=>vX O<|vV O (yf 38 rfl QL O nU O)<|vV O (aX (u:= .slice ca.rA ca.rea.length ca.rC) rfl hA31.q O 8 O (fB h32 3) nZ)<|vV O (aT O Qr O O)<|vV O (iw O Qr xq O (.none 0) (.some rfl rfl) (Qs _) ag iV)<|vV O (yf 38 rfl QL O nU O) fun a hF=>?_
 refine ax O (fun K hK=>bW (off:=35+3) hF O O hA31 O O 0 O (by rw [dY hx2]; decide) rfl nU (fun w32 hA33=>hK _ _ ?_))
 replace hA33:Hp w0 ([row b21 52 (c12.cells.set (35+3) (.slice (some ⟨g6,0,none⟩) ca.rea.length (ca.rea.length+80)))]::Z::Q6::Q5::Q4::Q3::Q2::Q1::[row b4 52 ca.cells]::[row b1 49 (.int .i64 n::dc ch)]::[]) w32:=hA33
 obtain ⟨c13,hc13⟩:∃ q:CA,q=⟨c12.name,c12.typ,c12.cnt,c12.ch,c12.vals,c12.vA,c12.vC,c12.opn,c12.oA,c12.oC,c12.clo,c12.cA,c12.cC,ca.rea,(some ⟨g6,0,none⟩),(ca.rea.length+80)⟩:=⟨_,rfl⟩
 have hx3:c13.ch.length=32:=by rw [hc13]; exact hx2
 have hA34:Hp w0 ([row b21 52 c13.cells]::Z::Q6::Q5::Q4::Q3::Q2::Q1::[row b4 52 ca.cells]::[row b1 49 (.int .i64 n::dc ch)]::[]) w32:=(by have h9:=hA33; rw [mM hx2] at h9; rw [hc13]; exact h9)
 refine aK<|hK11 _ _ ?_
 apply wp_seq_k; intro K12 hK12
 refine wS hF fun K13 hK13=>vX O<|vE hK13<|wBk fun a hF=>?_
 have hEd:CEq c13 ca:=by
  obtain ⟨q1,q2,q3,q4,q5,q6,q7,q8⟩:=hEb
  rw [hc13,hc12,hc11]
  exact ⟨q1,q2,q3,q4,q5,rfl,rfl,rfl⟩
 have pf1:∀ {X:Seg},X∈([Z,Q1,Q2,Q3,Q4,Q5,Q6]:List Seg)→[X]⊆([Z,Q1,Q2,Q3,Q4,Q5,Q6]:List Seg):=fun hX=>List.cons_subset.2 ⟨hX,List.nil_subset _⟩
 have hCd:c13.Ok w0 [Z,Q1,Q2,Q3,Q4,Q5,Q6]:=by
  rw [hc13,hc12,hc11]
  exact ⟨hb32,fun b hb=>(hCb.vok b hb).mono (pf1 (by simp)),hCb.vr.mono (pf1 (by simp)),hCb.vn,by rw [eu]; exact (nX hR4).mono (pf1 (by simp)),hC.opl,by rw [eu]; exact (nX hR5).mono (pf1 (by simp)),hC.cll,by rw [eu]; exact (nX hR6).mono (pf1 (by simp)),hC.rel⟩
 have hL1:Rc w0 [Z,Q1,Q2,Q3,Q4,Q5,Q6] (some ⟨g1,0,none⟩) (l1.map ak):=by rw [eu]; exact (nX hR1).mono (pf1 (by simp))
 have hL2:Rc w0 [Z,Q1,Q2,Q3,Q4,Q5,Q6] (some ⟨g2,0,none⟩) (l2.map ak):=by rw [eu]; exact (nX hR2).mono (pf1 (by simp))
 have hL3:Rc w0 [Z,Q1,Q2,Q3,Q4,Q5,Q6] (some ⟨g3,0,none⟩) (l3.map ak):=by rw [eu]; exact (nX hR3).mono (pf1 (by simp))
 obtain ⟨k,hk⟩:∃ k,k=stE ca.typ (l1.map (jL ca.bind)) l1.length l2.length l3.length:=⟨_,rfl⟩
 obtain ⟨X,hX⟩:∃ X,X=stX ca n ch l1 l2 l3:=⟨_,rfl⟩
 have hXl:X.length≤4300000:=by rw [hX]; exact Kq hch
 have hkd:stE c13.typ (l1.map (jL c13.bind)) l1.length l2.length l3.length=k:=by rw [hk,hEd.2.1,hEd.2.2.2.2.1]
 have hXd:stX c13 n ch l1 l2 l3=X:=by rw [hX]; exact NP hEd
 have hdn:c13.ch.length=32:=hCd.h32
 have hA35:Hp w0 ([row b1 49 (.int .i64 n::dc ch)]::[row b4 52 ca.cells]::[row b21 52 c13.cells]::Z::Q1::Q2::Q3::Q4::Q5::Q6::[]) w32:=hpO 10 [9,8,0,1,7,6,5,4,3,2] hA34 rfl
 refine bG (G:=Nat) (fun i a x=>i≤2∧Fr 163 [(18,.int .i64 ((i:Nat):Int)),(2,.slice A1 l1.length c1),(3,.slice A2 l2.length c2),(4,.slice A3 l3.length c3),(5,.pointer (some ⟨b1,0,none⟩)),(6,.pointer (some ⟨b4,0,none⟩)),(11,.slice (some ⟨g1,0,none⟩) (l1.length+80) (l1.length+80)),(12,.slice (some ⟨g2,0,none⟩) (l2.length+80) (l2.length+80)),(13,.slice (some ⟨g3,0,none⟩) (l3.length+80) (l3.length+80)),(14,.slice (some ⟨g4,0,none⟩) (ca.opn.length+80) (ca.opn.length+80)),(15,.slice (some ⟨g5,0,none⟩) (ca.clo.length+80) (ca.clo.length+80)),(16,.slice (some ⟨g6,0,none⟩) (ca.rea.length+80) (ca.rea.length+80)),(17,.pointer (some ⟨b21,0,none⟩))] a∧Hp w0 ([row b1 49 (.int .i64 n::dc ch)]::[row b4 52 ca.cells]::[row b21 52 c13.cells]::Z::Q1::Q2::Q3::Q4::Q5::Q6::[]) x) (fun i=>2-i) 0 (⟨Qs _,hF.keep [18,2,3,4,5,6,11,12,13,14,15,16,17] rfl,hA35⟩) ?_
 clear hF
 rintro i a w37 ⟨hi,hF,hA36⟩
 apply wp_seq_k; intro K14 hK14
 refine wS hF fun K15 hK15=>vX O<|vV O (aJ O O O O O)<|vE hK15 fun a hF=>?_
 by_cases hlt:i<2
 ·refine aG hF O (dA ag) ?_
  apply wp_skip
  refine hK14 _ _ ?_
  apply wp_seq_k; intro K16 hK16
  apply wp_block
  apply wp_seq_k; intro K17 hK17
  refine aU 19 [14,19] [0,1,2,3,4,5,6,7,8,9,10,11,12,13,14,15,16,17,18,19] _ af af (Hq.drew hA36.q) ?_
  have hA38:=Hl.drew hA36
  refine pR hF<|pV O O (fun x hx=>cO (new:=(.int .i64 n::dc ch)) O hx O 0 O yT (by rw [uD hch]; exact Qw _) (by rw [List.drop_zero]; exact Qz (by rw [uD hch]; exact Qw _))) fun a hF=>?_
  refine pR hF<|pV O O (fun x hx=>cO (new:=c13.cells) rfl hx O 2 O yS (by rw [dY hdn]; exact Qw _) (by rw [List.drop_zero]; exact Qz (by rw [dY hdn]; exact Qw _))) fun a hF=>?_
  refine pR hF<|pX O O<|pX O O<|pW O O (fun _=>aT O Qr O O)<|pW O O (fun _=>iw O Qr xq O (.none 0) (.some rfl rfl) (Qs _) ag iV)<|pX O O<|pX O O<|pW O O (fun _=>aT O Qr O O)<|pW O O (fun _=>iw O Qr xq O (.none 0) (.some rfl rfl) (Qs _) ag iV)<|pX O O<|pX O O<|pW O O (fun _=>aT O Qr O O)<|pW O O (fun _=>iw O Qr xq O (.none 0) (.some rfl rfl) (Qs _) ag iV) fun a hF=>?_
  refine gG O O O (fun K hK=>ay hF O ae MP rfl rfl ?_)
  with_reducible refine (GG n ch c13 (some ⟨g1,0,none⟩) l1 (l1.length+80) (some ⟨g2,0,none⟩) l2 (l2.length+80) (some ⟨g3,0,none⟩) l3 (l3.length+80) _ hT hch hCd hL1 hL2 hL3 (CZ (Qy _ (Qy _ (Qy _ ((Qx ..))))) (Qy _ (Qy _ (Qy _ (Qy _ ((Qx ..)))))) (Qy _ (Qy _ (Qy _ (Qy _ (Qy _ ((Qx ..))))))) (Qy _ (Qy _ (Qy _ (Qy _ (Qy _ (Qy _ ((Qx ..)))))))) (Qy _ (Qy _ (Qy _ (Qy _ (Qy _ (Qy _ (Qy _ ((Qx ..))))))))) (Qy _ (Qy _ (Qy _ (Qy _ (Qy _ (Qy _ (Qy _ (Qy _ ((Qx ..)))))))))) (Qy _ (Qy _ (Qy _ (Qy _ (Qy _ (Qy _ (Qy _ (Qy _ (Qy _ ((Qx ..)))))))))))) hA38).mono ?_
  rintro e' w39 ⟨vE1,ZE1,rfl,hZE1,hA40⟩
  refine ⟨_,rfl,fun a hF=>hK _ _ (fun _=>?_) ?_⟩
  ·exact (qT hA40)
  replace hA40:Hp w0 (ZE1::[row b1 49 (.int .i64 n::dc ch)]::[row b4 52 ca.cells]::[row b21 52 c13.cells]::Z::Q1::Q2::Q3::Q4::Q5::Q6::[]) w39:=hA40
  rw [hkd] at hF
  rw [hXd] at hZE1
  obtain ⟨_,AE1,cE1,rfl,hcE1,hRE1⟩:=hZE1.rd (w0:=w0) (R:=[ZE1]) (Qx ..)
  refine pR hF<|pX O O<|pW O O (fun _=>aS (v:= .slice AE1 X.length cE1) rfl rfl rfl)<|pW O O (fun _=>aS (v:= .int .i64 ((k:Nat):Int)) O O O)<|pX O O fun a hF=>?_
  refine gu hF O O O O ae _ (jW O O) (fun h=>absurd h ae) (fun a hF=>?_)
  refine bP ?_
  refine hK17 _ _ ?_
  refine wS hF fun K18 hK18=>vV O (cO (new:=(.int .i64 n::dc ch)) O hA40.q O 1 O yT (by rw [uD hch]; exact Qw _) (by rw [List.drop_zero]; exact Qz (by rw [uD hch]; exact Qw _))) fun a hF=>?_
  refine vR hF<|vV O (cO (new:=ca.cells) rfl hA40.q O 2 O yS (by rw [dY h32]; exact Qw _) (by rw [List.drop_zero]; exact Qz (by rw [dY h32]; exact Qw _))) fun a hF=>?_
  refine vR hF<|vX O<|vX O<|vX O fun a hF=>?_
  refine ax O (fun K hK=>ay hF O ae Je rfl rfl ?_)
  with_reducible refine (G6 n ch ca A1 l1 c1 A2 l2 c2 A3 l3 c3 _ hTR hch hC h1 h2 h3 (List.nil_subset _) hA40).mono ?_
  rintro e' w41 ⟨vE2,ZE2,rfl,hZE2,hA42⟩
  refine ⟨_,rfl,fun a hF=>hK _ _ ?_⟩
  replace hA42:Hp w0 (ZE2::ZE1::[row b1 49 (.int .i64 n::dc ch)]::[row b4 52 ca.cells]::[row b21 52 c13.cells]::Z::Q1::Q2::Q3::Q4::Q5::Q6::[]) w41:=hA42
  rw [← hk] at hF
  rw [← hX] at hZE2
  obtain ⟨_,AE2,cE2,rfl,hcE2,hRE2⟩:=hZE2.rd (w0:=w0) (R:=[ZE2]) (Qx ..)
  refine vR hF<|vX O<|vV O (aS (v:= .slice AE2 X.length cE2) rfl rfl rfl)<|vV O (aS (v:= .int .i64 ((k:Nat):Int)) O O O)<|vX O<|vX O<|vE hK18<|wQ fun K19 hK19=>wT fun K20 hK20=>vX O<|vX O<|vV O (aJ O O O O (fK rfl))<|vX O fun a hF=>?_
  refine aI hF O O O O (aj rfl) ae _ (aY O O) (fun a hF=>?_)
  refine aI hF O O O O (aj rfl) ae _ (aY O O) (fun a hF=>?_)
  refine dG hF O O O (aj rfl) (fun K hK=>ay hF O ae Ah rfl rfl ?_)
  with_reducible refine (zW _ (hRE1.mono (List.cons_subset.2 ⟨(Qy _ ((Qx ..))),List.nil_subset _⟩)) (hRE2.mono (List.cons_subset.2 ⟨((Qx ..)),List.nil_subset _⟩)) ag hA42).mono ?_
  rintro e' w43 ⟨rfl,hA44⟩
  refine ⟨_,rfl,fun a hF=>hK _ _ ?_⟩
  replace hA44:Hp w0 (ZE2::ZE1::[row b1 49 (.int .i64 n::dc ch)]::[row b4 52 ca.cells]::[row b21 52 c13.cells]::Z::Q1::Q2::Q3::Q4::Q5::Q6::[]) w43:=hA44
  rw [decide_eq_true rfl] at hF
  refine aI hF O O O O (aj rfl) ae _ (dI O O O) (fun a hF=>?_)
  refine vR hF<|vV O (aV O O O O)<|vX O fun a hF=>?_
  refine aI hF O O O O (aj rfl) ae _ (aY O O) (fun a hF=>?_)
  refine dG hF O O O (aj rfl) (fun K hK=>ay hF O ae Jd rfl rfl ?_)
  with_reducible refine (Ce AE1 X cE1 _ hRE1 hcE1 ag hTD (List.cons_subset.2 ⟨(Qy _ ((Qx ..))),List.nil_subset _⟩) hA44).mono ?_
  rintro e' w45 ⟨rfl,hA46⟩
  refine ⟨_,rfl,fun a hF=>hK _ _ ?_⟩
  replace hA46:Hp w0 (ZE2::ZE1::[row b1 49 (.int .i64 n::dc ch)]::[row b4 52 ca.cells]::[row b21 52 c13.cells]::Z::Q1::Q2::Q3::Q4::Q5::Q6::[]) w45:=hA46
  refine aI hF O O O O (aj rfl) ae _ (aY O O) (fun a hF=>?_)
  refine dG hF O O O (aj rfl) (fun K hK=>ay hF O ae Jc rfl rfl ?_)
  with_reducible refine (Bi AE2 X cE2 _ hRE2 hcE2 ag (List.cons_subset.2 ⟨((Qx ..)),List.nil_subset _⟩) hA46).mono ?_
  rintro e' w47 ⟨rfl,hA48⟩
  refine ⟨_,rfl,fun a hF=>hK _ _ ?_⟩
  replace hA48:Hp w0 (ZE2::ZE1::[row b1 49 (.int .i64 n::dc ch)]::[row b4 52 ca.cells]::[row b21 52 c13.cells]::Z::Q1::Q2::Q3::Q4::Q5::Q6::[]) w47:=hA48
  refine aI hF O O O O (aj rfl) ae _ (Nl (X:=ofL 32 8 X) (Y:=ofL 32 8 X) rfl QA QJ xu af rfl rfl (jO _ _ _) (jO _ _ _) (by rw [decide_eq_true rfl] <;> rfl)) (fun a hF=>?_)
  refine vR hF<|vV O (aV O O O O)<|vX O fun a hF=>?_
  refine aI hF O O O O (aj rfl) ae _ (aY O O) (fun a hF=>?_)
  refine aI hF O O O O (aj rfl) ae _ (aY O O) (fun a hF=>?_)
  refine dG hF O O O (aj rfl) (fun K hK=>ay hF O ae Ah rfl rfl ?_)
  with_reducible refine (zW _ (hRE1.mono (List.cons_subset.2 ⟨(Qy _ ((Qx ..))),List.nil_subset _⟩)) (hRE2.mono (List.cons_subset.2 ⟨((Qx ..)),List.nil_subset _⟩)) ag hA48).mono ?_
  rintro e' w49 ⟨rfl,hA50⟩
  refine ⟨_,rfl,fun a hF=>hK _ _ ?_⟩
  replace hA50:Hp w0 (ZE2::ZE1::[row b1 49 (.int .i64 n::dc ch)]::[row b4 52 ca.cells]::[row b21 52 c13.cells]::Z::Q1::Q2::Q3::Q4::Q5::Q6::[]) w49:=hA50
  rw [decide_eq_true rfl] at hF
  refine aI hF O O O O (aj rfl) ae _ (dI O O O) (fun a hF=>?_)
  refine vR hF<|vV O (aV O O O O)<|vE hK20<|vF1 O<|wKp hK19<|wT fun K21 hK21=>vX O<|vE hK21<|wBk fun a hF=>?_
  obtain ⟨m,hm⟩:∃ m,m=X.length:=⟨_,rfl⟩
  rw [← hm] at hF hZE1 hXl
  have hA51:Hp w0 (ZE1::[row b1 49 (.int .i64 n::dc ch)]::[row b4 52 ca.cells]::[row b21 52 c13.cells]::Z::Q1::Q2::Q3::Q4::Q5::Q6::[]) w49:=hpS 12 [1,2,3,4,5,6,7,8,9,10,11] [0] hA50 af
  refine bG (G:=Nat) (fun j a x=>∃ (Wb:List Value) (Zb:Seg),j≤m∧Buf 5 1 Zb (.slice AE1 m cE1) m Wb∧Wb.length=m∧Fr 163 [(23,.int .i64 ((j:Nat):Int)),(2,.slice A1 l1.length c1),(3,.slice A2 l2.length c2),(4,.slice A3 l3.length c3),(5,.pointer (some ⟨b1,0,none⟩)),(6,.pointer (some ⟨b4,0,none⟩)),(11,.slice (some ⟨g1,0,none⟩) (l1.length+80) (l1.length+80)),(12,.slice (some ⟨g2,0,none⟩) (l2.length+80) (l2.length+80)),(13,.slice (some ⟨g3,0,none⟩) (l3.length+80) (l3.length+80)),(14,.slice (some ⟨g4,0,none⟩) (ca.opn.length+80) (ca.opn.length+80)),(15,.slice (some ⟨g5,0,none⟩) (ca.clo.length+80) (ca.clo.length+80)),(16,.slice (some ⟨g6,0,none⟩) (ca.rea.length+80) (ca.rea.length+80)),(17,.pointer (some ⟨b21,0,none⟩)),(18,.int .i64 ((i:Nat):Int)),(19,.slice AE1 m cE1)] a∧Hp w0 (Zb::[row b1 49 (.int .i64 n::dc ch)]::[row b4 52 ca.cells]::[row b21 52 c13.cells]::Z::Q1::Q2::Q3::Q4::Q5::Q6::[]) x) (fun j=>m-j) 0 (⟨_,_,Qs _,hZE1,(by rw [aN,hm]),hF.keep [23,2,3,4,5,6,11,12,13,14,15,16,17,18,19] rfl,hA51⟩) ?_
  clear hF
  rintro j a w53 ⟨Wb,Zb,hj,hZb,hWl,hF,hA52⟩
  apply wp_seq_k; intro K22 hK22
  refine wS hF fun K23 hK23=>vX O<|vX O<|vV O (aT O Qv O O)<|vV O (aJ O O O O O)<|vE hK23 fun a hF=>?_
  by_cases hlt2:j<m
  ·refine aG hF O (dA ag) ?_
   obtain ⟨gv,BV,ZV,cv,hvv,rfl,_,hO3⟩:=Na hZb hlt2 (.int .u8 7)
   injection hvv with hv1 hv2 hv3
   have hFn:=hF
   subst hv1 hv3
   have hF:=hFn
   clear hFn
   apply wp_skip
   refine hK22 _ _ ?_
   apply wp_seq_k; intro K24 hK24
   apply wp_block
   refine wp_region_lit ?_
   refine vR hF<|vX O<|vX O<|vV O (bV O Qv xu O O j rfl hlt2 (ad2 _ _ _)) fun a hF=>?_
   refine ax O (fun K hK=>bW hF O O hA52 O O 0 O (by rw [List.length_append,List.length_append,hWl]; omega) rfl xu (fun w54 hA55=>hK _ _ ?_))
   replace hA55:Hp w0 ([row gv 5 ((BV++Wb++ZV).set (BV.length+j) (.int .u8 7))]::[row b1 49 (.int .i64 n::dc ch)]::[row b4 52 ca.cells]::[row b21 52 c13.cells]::Z::Q1::Q2::Q3::Q4::Q5::Q6::[]) w54:=hA55
   refine aK<|hK24 _ _ ?_
   refine wp_region_lit ?_
   refine vR hF<|vX O<|vV O (bH O O O (Qu _ ag))<|vX O fun a hF=>?_
   refine aK ?_
   exact ⟨j+1,ag,_,_,ag,hO3,(by rw [List.length_set]; exact hWl),hF.keep [23,2,3,4,5,6,11,12,13,14,15,16,17,18,19] rfl,hA55⟩
  ·refine au hF O (dm ag) ?_
   apply wp_exit
   refine hK16 _ _ ?_
   refine wp_region_lit ?_
   refine vR hF<|vX O<|vV O (bH O O O (Qu _ ag))<|vX O fun a hF=>?_
   refine aK ?_
   have hA56:Hp w0 ([row b1 49 (.int .i64 n::dc ch)]::[row b4 52 ca.cells]::[row b21 52 c13.cells]::Z::Q1::Q2::Q3::Q4::Q5::Q6::[]) w53:=hpS 11 [1,2,3,4,5,6,7,8,9,10] [0] hA52 af
   exact ⟨i+1,ag,ag,hF.keep [18,2,3,4,5,6,11,12,13,14,15,16,17] rfl,hA56⟩
 ·refine au hF O (dm ag) ?_
  apply wp_exit
  refine hK12 _ _ ?_
  apply wp_seq_k; intro K25 hK25
  refine wS hF fun K26 hK26=>vV O (cO (new:=c13.cells) rfl hA36.q O 2 O yS (by rw [dY hdn]; exact Qw _) (by rw [List.drop_zero]; exact Qz (by rw [dY hdn]; exact Qw _))) fun a hF=>?_
  refine vR hF<|vV O (cO (new:=ca.cells) rfl hA36.q O 1 O yS (by rw [dY h32]; exact Qw _) (by rw [List.drop_zero]; exact Qz (by rw [dY h32]; exact Qw _))) fun a hF=>?_
  refine ax O (fun K hK=>ay hF O ae Jb rfl rfl ?_)
  with_reducible refine (Ld c13 ca _ hEd hCd (CZ (Qy _ (Qy _ (Qy _ ((Qx ..))))) (Qy _ (Qy _ (Qy _ (Qy _ ((Qx ..)))))) (Qy _ (Qy _ (Qy _ (Qy _ (Qy _ ((Qx ..))))))) (Qy _ (Qy _ (Qy _ (Qy _ (Qy _ (Qy _ ((Qx ..)))))))) (Qy _ (Qy _ (Qy _ (Qy _ (Qy _ (Qy _ (Qy _ ((Qx ..))))))))) (Qy _ (Qy _ (Qy _ (Qy _ (Qy _ (Qy _ (Qy _ (Qy _ ((Qx ..)))))))))) (Qy _ (Qy _ (Qy _ (Qy _ (Qy _ (Qy _ (Qy _ (Qy _ (Qy _ ((Qx ..)))))))))))) hC (List.nil_subset _) hA36).mono ?_
  rintro e' w57 ⟨rfl,hA58⟩
  refine ⟨_,rfl,fun a hF=>hK _ _ ?_⟩
  replace hA58:Hp w0 ([row b1 49 (.int .i64 n::dc ch)]::[row b4 52 ca.cells]::[row b21 52 c13.cells]::Z::Q1::Q2::Q3::Q4::Q5::Q6::[]) w57:=hA58
  refine vR hF<|vV O (dI O O O)<|vX O fun a hF=>?_
  refine aI hF O O O O (aj rfl) ae _ (aY O O) (fun a hF=>?_)
  refine aI hF O O O O (aj rfl) ae _ (yf 36 rfl QL O nU O) (fun a hF=>?_)
  refine aI hF O O O O (aj rfl) ae _ (aX (u:= .slice ca.oA ca.opn.length ca.oC) rfl hA58.q O 1 O (fB h32 1) nZ) (fun a hF=>?_)
  refine dG hF O O O (aj rfl) (fun K hK=>ay hF O ae lT rfl rfl ?_)
  with_reducible refine (fD w0 _ ([row b1 49 (.int .i64 n::dc ch)]::[row b4 52 ca.cells]::[row b21 52 c13.cells]::Z::Q1::Q2::Q3::Q4::Q5::Q6::[]) (some ⟨g4,0,none⟩) ca.oA ca.opn (ca.opn.length+80) ca.oC mkS (hR4.mono (List.cons_subset.2 ⟨(Qy _ (Qy _ (Qy _ (Qy _ (Qy _ (Qy _ (Qy _ ((Qx ..))))))))),List.nil_subset _⟩)) (by rw [← eu ca.opn]; exact hC.opr.mono (List.nil_subset _)) (fun _ _=>rfl) rfl (Qw _) hA58 ag).mono ?_
  rintro e' w59 ⟨rfl,hA60⟩
  refine ⟨_,rfl,fun a hF=>hK _ _ ?_⟩
  replace hA60:Hp w0 ([row b1 49 (.int .i64 n::dc ch)]::[row b4 52 ca.cells]::[row b21 52 c13.cells]::Z::Q1::Q2::Q3::Q4::Q5::Q6::[]) w59:=hA60
  refine aI hF O O O O (aj rfl) ae _ (dI O O O) (fun a hF=>?_)
  refine vR hF<|vV O (aV O O O O)<|vX O fun a hF=>?_
  refine aI hF O O O O (aj rfl) ae _ (aY O O) (fun a hF=>?_)
  refine aI hF O O O O (aj rfl) ae _ (yf 37 rfl QL O nU O) (fun a hF=>?_)
  refine aI hF O O O O (aj rfl) ae _ (aX (u:= .slice ca.cA ca.clo.length ca.cC) rfl hA60.q O 1 O (fB h32 2) nZ) (fun a hF=>?_)
  refine dG hF O O O (aj rfl) (fun K hK=>ay hF O ae lT rfl rfl ?_)
  with_reducible refine (fD w0 _ ([row b1 49 (.int .i64 n::dc ch)]::[row b4 52 ca.cells]::[row b21 52 c13.cells]::Z::Q1::Q2::Q3::Q4::Q5::Q6::[]) (some ⟨g5,0,none⟩) ca.cA ca.clo (ca.clo.length+80) ca.cC mkS (hR5.mono (List.cons_subset.2 ⟨(Qy _ (Qy _ (Qy _ (Qy _ (Qy _ (Qy _ (Qy _ (Qy _ ((Qx ..)))))))))),List.nil_subset _⟩)) (by rw [← eu ca.clo]; exact hC.clr.mono (List.nil_subset _)) (fun _ _=>rfl) rfl (Qw _) hA60 ag).mono ?_
  rintro e' w61 ⟨rfl,hA62⟩
  refine ⟨_,rfl,fun a hF=>hK _ _ ?_⟩
  replace hA62:Hp w0 ([row b1 49 (.int .i64 n::dc ch)]::[row b4 52 ca.cells]::[row b21 52 c13.cells]::Z::Q1::Q2::Q3::Q4::Q5::Q6::[]) w61:=hA62
  refine aI hF O O O O (aj rfl) ae _ (dI O O O) (fun a hF=>?_)
  refine vR hF<|vV O (aV O O O O)<|vX O fun a hF=>?_
  refine aI hF O O O O (aj rfl) ae _ (aY O O) (fun a hF=>?_)
  refine aI hF O O O O (aj rfl) ae _ (yf 38 rfl QL O nU O) (fun a hF=>?_)
  refine aI hF O O O O (aj rfl) ae _ (aX (u:= .slice ca.rA ca.rea.length ca.rC) rfl hA62.q O 1 O (fB h32 3) nZ) (fun a hF=>?_)
  refine dG hF O O O (aj rfl) (fun K hK=>ay hF O ae lT rfl rfl ?_)
  with_reducible refine (fD w0 _ ([row b1 49 (.int .i64 n::dc ch)]::[row b4 52 ca.cells]::[row b21 52 c13.cells]::Z::Q1::Q2::Q3::Q4::Q5::Q6::[]) (some ⟨g6,0,none⟩) ca.rA ca.rea (ca.rea.length+80) ca.rC mkS (hR6.mono (List.cons_subset.2 ⟨(Qy _ (Qy _ (Qy _ (Qy _ (Qy _ (Qy _ (Qy _ (Qy _ (Qy _ ((Qx ..))))))))))),List.nil_subset _⟩)) (by rw [← eu ca.rea]; exact hC.rer.mono (List.nil_subset _)) (fun _ _=>rfl) rfl (Qw _) hA62 ag).mono ?_
  rintro e' w63 ⟨rfl,hA64⟩
  refine ⟨_,rfl,fun a hF=>hK _ _ ?_⟩
  replace hA64:Hp w0 ([row b1 49 (.int .i64 n::dc ch)]::[row b4 52 ca.cells]::[row b21 52 c13.cells]::Z::Q1::Q2::Q3::Q4::Q5::Q6::[]) w63:=hA64
  refine aI hF O O O O (aj rfl) ae _ (dI O O O) (fun a hF=>?_)
  refine vR hF<|vV O (aV O O O O)<|vX O fun a hF=>?_
  refine aI hF O O O O (aj rfl) ae _ (aY O O) (fun a hF=>?_)
  refine aI hF O O O O (aj rfl) ae _ (aY O O) (fun a hF=>?_)
  refine dG hF O O O (aj rfl) (fun K hK=>ay hF O ae lT rfl rfl ?_)
  with_reducible refine (fD w0 _ ([row b1 49 (.int .i64 n::dc ch)]::[row b4 52 ca.cells]::[row b21 52 c13.cells]::Z::Q1::Q2::Q3::Q4::Q5::Q6::[]) (some ⟨g1,0,none⟩) A1 l1 (l1.length+80) c1 mkS (hR1.mono (List.cons_subset.2 ⟨(Qy _ (Qy _ (Qy _ (Qy _ ((Qx ..)))))),List.nil_subset _⟩)) (by rw [← eu l1]; exact h1.mono (List.nil_subset _)) (fun _ _=>rfl) rfl (Qw _) hA64 ag).mono ?_
  rintro e' w65 ⟨rfl,hA66⟩
  refine ⟨_,rfl,fun a hF=>hK _ _ ?_⟩
  replace hA66:Hp w0 ([row b1 49 (.int .i64 n::dc ch)]::[row b4 52 ca.cells]::[row b21 52 c13.cells]::Z::Q1::Q2::Q3::Q4::Q5::Q6::[]) w65:=hA66
  refine aI hF O O O O (aj rfl) ae _ (dI O O O) (fun a hF=>?_)
  refine vR hF<|vV O (aV O O O O)<|vE hK26<|vF1 O<|wKp hK25<|wT fun K27 hK27=>vX O<|vX O fun a hF=>?_
  refine ax O (fun K hK=>ay hF O ae lT rfl rfl ?_)
  with_reducible refine (fD w0 _ ([row b1 49 (.int .i64 n::dc ch)]::[row b4 52 ca.cells]::[row b21 52 c13.cells]::Z::Q1::Q2::Q3::Q4::Q5::Q6::[]) (some ⟨g2,0,none⟩) A2 l2 (l2.length+80) c2 mkS (hR2.mono (List.cons_subset.2 ⟨(Qy _ (Qy _ (Qy _ (Qy _ (Qy _ ((Qx ..))))))),List.nil_subset _⟩)) (by rw [← eu l2]; exact h2.mono (List.nil_subset _)) (fun _ _=>rfl) rfl (Qw _) hA66 ag).mono ?_
  rintro e' w67 ⟨rfl,hA68⟩
  refine ⟨_,rfl,fun a hF=>hK _ _ ?_⟩
  replace hA68:Hp w0 ([row b1 49 (.int .i64 n::dc ch)]::[row b4 52 ca.cells]::[row b21 52 c13.cells]::Z::Q1::Q2::Q3::Q4::Q5::Q6::[]) w67:=hA68
  refine vR hF<|vX O fun a hF=>?_
  refine aI hF O O O O (aj rfl) ae _ (aY O O) (fun a hF=>?_)
  refine aI hF O O O O (aj rfl) ae _ (aY O O) (fun a hF=>?_)
  refine dG hF O O O (aj rfl) (fun K hK=>ay hF O ae lT rfl rfl ?_)
  with_reducible refine (fD w0 _ ([row b1 49 (.int .i64 n::dc ch)]::[row b4 52 ca.cells]::[row b21 52 c13.cells]::Z::Q1::Q2::Q3::Q4::Q5::Q6::[]) (some ⟨g3,0,none⟩) A3 l3 (l3.length+80) c3 mkS (hR3.mono (List.cons_subset.2 ⟨(Qy _ (Qy _ (Qy _ (Qy _ (Qy _ (Qy _ ((Qx ..)))))))),List.nil_subset _⟩)) (by rw [← eu l3]; exact h3.mono (List.nil_subset _)) (fun _ _=>rfl) rfl (Qw _) hA68 ag).mono ?_
  rintro e' w69 ⟨rfl,hA70⟩
  refine ⟨_,rfl,fun a hF=>hK _ _ ?_⟩
  replace hA70:Hp w0 ([row b1 49 (.int .i64 n::dc ch)]::[row b4 52 ca.cells]::[row b21 52 c13.cells]::Z::Q1::Q2::Q3::Q4::Q5::Q6::[]) w69:=hA70
  refine vR hF<|vV O (bg O O O O)<|vX O fun a hF=>?_
  refine dG hF O O O (aj rfl) (fun K hK=>ay hF O ae Jl rfl rfl ?_)
  with_reducible refine (IP _ hT hA70).mono ?_
  rintro e' w71 ⟨rfl,hA72⟩
  refine ⟨_,rfl,fun a hF=>hK _ _ ?_⟩
  replace hA72:Hp w0 ([row b1 49 (.int .i64 n::dc ch)]::[row b4 52 ca.cells]::[row b21 52 c13.cells]::Z::Q1::Q2::Q3::Q4::Q5::Q6::[]) w71:=hA72
  refine vR hF<|vV O (bg O O O O)<|vX O<|vE hK27 fun a hF=>?_
  apply wp_ret
  refine aO hF Tryz.results11 O ?_
  have hA73:Hp w0 ([]) w71:=hpS 10 [] [0,1,2,3,4,5,6,7,8,9] hA72 rfl
  exact ⟨rfl,hA73.at0⟩
end Go.Proofs.YtepbmdlgdaedpaaGreatDoor
