/- The reference's side of the digest's table. -/
import Derived.Test.YtepbmdlgdaedpaaGreatDoorTab4
/- The reference's side of the digest's table. -/
namespace Go.Proofs.YtepbmdlgdaedpaaGreatDoor
open Go.RowKit Go.Dk
theorem Gj {D:List UInt8} (hD:D.length=32) {k i:Nat} (hk:k≤i) (hi:i<32):(dc (D.take k++List.replicate (i-k) 0++D.drop i)).set i (.int .u8 0)=dc (D.take k++List.replicate (i+1-k) 0++D.drop (i+1)):=by
 have hl:(D.take k++List.replicate (i-k) (0:UInt8)).length=i:=by simp [hD]; omega
 rw [List.drop_eq_getElem_cons (show i<D.length by omega),dh,List.set_append,if_neg (by rw [aK,hl]; omega),aK,hl,Nat.sub_self]
 rw [show i+1-k=(i-k)+1 by omega,List.replicate_succ',dh,dh,dh,dh]
 simp [dc]
 rw [List.drop_eq_getElem_cons (by simp; omega)]
 rfl
theorem Jk {D:List UInt8} (hD:D.length=32) (k:Nat):D.take k++List.replicate (k-k) 0++D.drop k=D:=by simp
theorem JL:aQ Tryz.prog 167:=⟨_,Tryz.func167,af,af⟩
theorem JD:aQ Tryz.prog 168:=⟨_,Tryz.func168,af,af⟩
theorem BM:aQ Tryz.prog 118:=⟨_,Tryz.func118,af,af⟩
theorem JA:aQ Tryz.prog 166:=⟨_,Tryz.func166,af,af⟩
set_option maxRecDepth 100000 in
set_option maxHeartbeats 1000000 in
theorem EP (D:List UInt8) (m:Int) (w:World) (hD:D.length=32) :
  Calls Tryz.prog 166 #[.agg (dc D).toArray,.int .i64 m] w fun e w'=>e= .returned (.agg (dc (kL D m)).toArray)∧At w [] w':=by
 have hA0:=At.refl w
 obtain ⟨z,hz⟩:∃ z:Int,z=max m 1:=⟨_,rfl⟩
 refine aP Tryz.func166 O Tryz.ntmps166 ai (fun a hF=>?_)
 refine wp_seq_k fun K1 hK1=>wp_region_lit ?_
 refine ay O (fun K hK=>oZ (cs:=dc D) hF O ae rfl hA0 O (fun b2 w1 a hb2 hF hA1=>hK _ _ ?_))
 refine ay O (fun K hK=>fC hF O ae rfl hA1 ku (fun b4 w2 a hb4 hF hA2=>hK _ _ ?_))
 replace hA2:At w [(b4,29,dc (List.replicate 32 0)),(b2,29,dc D)] w2:=hA2
 refine aI<|hK1 _ _ ?_
 apply wp_seq_k; intro K2 hK2
 refine wS hF fun K3 hK3=>vX O<|vV O (az O O O O O)<|vE hK3 fun a hF=>?_
 have meet:∀ (a:Act) (x:World),Fr 16 [(1,.int .i64 z),(2,.pointer (some ⟨b2,0,none⟩)),(4,.pointer (some ⟨b4,0,none⟩))] a→At w [(b4,29,dc (List.replicate 32 0)),(b2,29,dc D)] x→K2 a x:=by
  clear hF
  intro a w2 hF hA2
  refine hK2 _ _ ?_
  apply wp_seq_k; intro K4 hK4
  refine wS hF fun K5 hK5=>vX O<|vX O<|vE hK5<|wBk fun a hF=>?_
  by_cases hbig:32≤z
  ·have hfin:kL D m=D:=by
    have hk:kept m=32:=by unfold kept; omega
    rw [kL,hk,NZ ag]
    simp
   refine bH (G:=Unit) (fun _ a x=>Fr 16 [(5,.int .i64 z),(2,.pointer (some ⟨b2,0,none⟩)),(4,.pointer (some ⟨b4,0,none⟩))] a∧At w [(b4,29,dc (List.replicate 32 0)),(b2,29,dc D)] x) (fun _=>0) () ⟨hF.keep [5,2,4] rfl,hA2⟩ ?_
   clear hF hA2
   rintro _ a wr ⟨hF,hAr⟩
   apply wp_seq_k; intro K6 hK6
   refine wS hF fun K7 hK7=>vX O<|vV O (az O O O O O)<|vE hK7 fun a hF=>?_
   refine au hF O (dO hbig) ?_
   apply wp_exit
   refine hK4 _ _ ?_
   refine wS hF fun K8 hK8=>vV O (kV O hAr O 1 O AZ (by show 0+32≤(dc D).length; rw [aK,← hfin,dA _ _ hD]; decide) (new:=dc (kL D m)) (by rw [List.drop_zero,hfin]; exact NZ (by rw [aK,← hfin,dA _ _ hD]; exact NV _))) fun a hF=>?_
   refine ay O (fun K hK=>ed hF O O hAr O O 0 O (wX (dA _ _ hD)) (gG _) wY (fun w5 hA5=>hK _ _ ?_))
   refine aI<|hK8 _ _ ?_
   apply wp_ret
   refine jw hF Tryz.results166 hA5 O 0 O (jF (dA _ _ hD)) ?_
   exact ⟨rfl,hA5.clear (dm (by have:=hA1.size; omega) (fG hb2))⟩
  ·obtain ⟨k,hkz⟩:∃ k:Nat,z=(k:Int):=⟨z.toNat,ag⟩
   subst hkz
   have hk32:k<32:=by omega
   have hkk:kept m=k:=by unfold kept; omega
   refine bH (G:=Nat) (fun i a x=>k≤i∧i≤32∧Fr 16 [(5,.int .i64 (i:Int)),(2,.pointer (some ⟨b2,0,none⟩)),(4,.pointer (some ⟨b4,0,none⟩))] a∧At w [(b4,29,dc (List.replicate 32 0)),(b2,29,dc (D.take k++List.replicate (i-k) 0++D.drop i))] x) (fun i=>32-i) k ⟨NV _,ag,hF.keep [5,2,4] rfl,by rw [Jk hD]; exact hA2⟩ ?_
   clear hF
   rintro i a wr ⟨hki,hi32,hF,hAr⟩
   by_cases hi:i<32
   ·apply wp_seq_k; intro K9 hK9
    refine wS hF fun K10 hK10=>vX O<|vV O (az O O O O O)<|vE hK10 fun a hF=>?_
    refine aF hF O (dS ag) ?_
    apply wp_skip
    refine hK9 _ _ ?_
    apply wp_seq_k; intro K11 hK11
    apply wp_block
    refine wp_region_lit ?_
    refine vR hF<|vX O<|vV O (bP O N7 lu rfl rfl i rfl ag (ad1 _ _) (rfl:(none:Option Nat)=none)) fun a hF=>?_
    refine ay O (fun K hK=>dF hF O O hAr O O 1 O (by rw [aK]; simp [hD]; omega) rfl lu (fun w3 hA3=>hK _ _ ?_))
    replace hA3:At w [(b4,29,dc (List.replicate 32 0)),(b2,29,dc (D.take k++List.replicate (i+1-k) 0++D.drop (i+1)))] w3:=by have h:=hA3; simp only [List.set_cons_succ,List.set_cons_zero] at h; rw [Gj hD hki hi] at h; exact h
    refine aI<|hK11 _ _ ?_
    refine wp_region_lit ?_
    refine vR hF<|vX O<|vV O (bz O O O (show IntKind.i64.wrap ((i:Int)+1)=((i+1:Nat):Int) by rw [NS _ ag]; omega)) fun a hF=>?_
    refine vR hF<|vX O fun a hF=>?_
    refine aI ?_
    exact ⟨i+1,ag,ag,ag,hF.keep [5,2,4] rfl,hA3⟩
   ·obtain rfl:i=32:=by omega
    have hfin:kL D m=D.take k++List.replicate (32-k) 0++D.drop 32:=by
     rw [kL,hkk,List.drop_eq_nil_iff.2 ag,List.append_nil]
    apply wp_seq_k; intro K12 hK12
    refine wS hF fun K13 hK13=>vX O<|vV O (az O O O O O)<|vE hK13 fun a hF=>?_
    refine au hF O (dO ag) ?_
    apply wp_exit
    refine hK4 _ _ ?_
    refine wS hF fun K14 hK14=>vV O (kV O hAr O 1 O AZ (by show 0+32≤(dc (D.take k++List.replicate (32-k) 0++D.drop 32)).length; rw [aK,← hfin,dA _ _ hD]; decide) (new:=dc (kL D m)) (by rw [List.drop_zero,hfin]; exact NZ (by rw [aK,← hfin,dA _ _ hD]; exact NV _))) fun a hF=>?_
    refine ay O (fun K hK=>ed hF O O hAr O O 0 O (wX (dA _ _ hD)) (gG _) wY (fun w5 hA5=>hK _ _ ?_))
    refine aI<|hK14 _ _ ?_
    apply wp_ret
    refine jw hF Tryz.results166 hA5 O 0 O (jF (dA _ _ hD)) ?_
    exact ⟨rfl,hA5.clear (dm (by have:=hA1.size; omega) (fG hb2))⟩
 by_cases hm:m<1
 ·refine aF hF O (dS hm) ?_
  refine wp_region_lit ?_
  refine vR hF<|vX O fun a hF=>?_
  refine aI ?_
  have hz1:z=1:=by omega
  rw [← hz1] at hF
  exact meet _ _ (hF.keep [1,2,4] rfl) hA2
 ·refine au hF O (dO ag) ?_
  apply wp_skip
  have hz1:z=m:=by omega
  rw [← hz1] at hF
  exact meet _ _ (hF.keep [1,2,4] rfl) hA2
set_option maxRecDepth 100000 in
set_option maxHeartbeats 1000000 in
theorem CU (w:World) (dom:UInt8) (di:Int) (hdi:IntKind.u8.wrap di=(dom.toNat:Int)) (pa:Option Addr) (ps:List Part) (c n:Nat) (hn:n=ps.length) (hP:Pieces w pa ps) (hlen:(flat ps).length<140737488353000) (hnb:n<9223372036854775807) :
  Calls Tryz.prog 168 #[.int .i64 di,.slice pa n c] w fun e w'=>∃ v Y,e= .returned v∧Own w 5 1 Y v (dom::flat ps).length (dc (dom::flat ps))∧At w Y w':=by
 subst hn
 have hA0:=At.refl w
 have hfl:∀ j,(flat (ps.take j)).length≤(flat ps).length:=fun j=>by
  have h2:flat ps=flat (ps.take j)++flat (ps.drop j):=by unfold flat; rw [← List.flatMap_append,List.take_append_drop]
  rw [h2,List.length_append]; omega
 refine aP Tryz.func168 O Tryz.ntmps168 ai (fun a hF=>?_)
 refine wS hF fun K1 hK1=>vX O<|vE hK1<|wT fun K2 hK2=>vX O<|vV O (bJ O Oa Oi O hdi) fun a hF=>?_
 refine ay O (fun K hK=>qQ hF O ae rfl hA0 dom rfl sH (fun g w1 a hg hF hA1=>hK _ _ ?_))
 have hO1:Own w 5 1 [(g,5,dc [dom])] (.slice (some ⟨g,0,none⟩) 1 1) (dom::flat (ps.take 0)).length (dc (dom::flat (ps.take 0))):=⟨rfl,.inr ⟨g,1,[],rfl,NV _,hg,rfl,rfl⟩⟩
 refine vR hF<|vX O<|vE hK2<|wQ fun K3 hK3=>wT fun K4 hK4=>vX O<|vE hK4<|wBk fun a hF=>?_
 refine bH (G:=Nat) (fun i a x=>i≤ps.length∧∃ (vo:Value) (X:List Row),Fr 23 [(6,.int .i64 (i:Int)),(1,.slice pa ps.length c),(5,vo)] a∧Own w 5 1 X vo (dom::flat (ps.take i)).length (dc (dom::flat (ps.take i)))∧At w X x) (fun i=>ps.length-i) 0 ⟨NR _,_,_,hF.keep [6,1,5] rfl,hO1,hA1⟩ ?_
 clear hF
 rintro i a wr ⟨hi,vo,X,hF,hO,hAr⟩
 by_cases hlt:i<ps.length
 ·have hPr:=hP.fresh hAr hO.new
  have hne:ps≠[]:=fun e=>by rw [e] at hlt; exact absurd hlt (Nat.not_lt_zero _)
  obtain ⟨b,o,rfl,hbl,hcells⟩:=hPr.1 hne
  obtain ⟨⟨A,cA,l⟩,hp⟩:∃ q,ps[i]? = some q:=⟨_,List.getElem?_eq_getElem hlt⟩
  have hcell:=hcells i A cA l hp
  obtain ⟨hlc,hBl⟩:=hPr.2 A cA l (List.mem_of_getElem? hp)
  have hft:=pI hp
  have hfle:=Bz hp
  apply wp_seq_k; intro K5 hK5
  refine wS hF fun K6 hK6=>vX O<|vX O<|vV O (aX O Oq O O)<|vV O (az O O O O O)<|vE hK6 fun a hF=>?_
  refine aF hF O (dS ag) ?_
  apply wp_skip
  refine hK5 _ _ ?_
  apply wp_seq_k; intro K7 hK7
  apply wp_block
  refine wp_region_lit ?_
  refine vR hF<|vX O<|vX O<|vX O<|vV O (cO O Oq Ij O O i rfl hlt (ad2 _ _ _))<|vV O (lw O O hcell MN) fun a hF=>?_
  refine ay O (fun K hK=>Kt hF O ae rfl [] (X:=X) hAr hO NQ gV rfl rfl (Bts.src NQ hBl) (by simp only [List.length_cons]; omega) ae (fun v2 X2 w2 a hO2 hF hA2=>hK _ _ ?_))
  have e2:(dom::flat (ps.take i)).length+l.length=(dom::flat (ps.take (i+1))).length:=by rw [hft]; simp; omega
  rw [← dh,e2,List.cons_append,← hft] at hO2
  refine vR hF<|vX O fun a hF=>aI<|hK7 _ _ ?_
  refine wp_region_lit ?_
  refine vR hF<|vX O<|vV O (bz O O O (NS _ ag))<|vX O fun a hF=>?_
  refine aI ?_
  exact ⟨i+1,ag,ag,v2,X2,hF.keep [6,1,5] rfl,hO2,hA2⟩
 ·obtain rfl:i=ps.length:=by omega
  rw [yx] at hO
  apply wp_seq_k; intro K8 hK8
  refine wS hF fun K9 hK9=>vX O<|vX O<|vV O (aX O Oq O O)<|vV O (az O O O O O)<|vE hK9 fun a hF=>?_
  refine au hF O (dO ag) ?_
  apply wp_exit
  refine hK3 _ _ ?_
  refine wS hF fun K10 hK10=>vX O<|vX O<|vE hK10 fun a hF=>?_
  apply wp_ret
  refine aO hF Tryz.results168 O ?_
  exact ⟨vo,X,rfl,hO,hAr⟩
set_option maxRecDepth 100000 in
set_option maxHeartbeats 1000000 in
theorem A7 (w:World) (width:Int) (dom:UInt8) (di:Int) (hdi:IntKind.u8.wrap di=(dom.toNat:Int)) (pa:Option Addr) (ps:List Part) (c n:Nat) (hn:n=ps.length) (hP:Pieces w pa ps) (hlen:(flat ps).length<140737488353000) (hnb:n<9223372036854775807) :
  Calls Tryz.prog 118 #[.int .i64 width,.int .i64 di,.slice pa n c] w fun e w'=>e= .returned (.agg (dc (ofL width dom (flat ps))).toArray)∧At w [] w':=by
 have hA0:=At.refl w
 refine aP Tryz.func118 O Tryz.ntmps118 ai (fun a hF=>?_)
 refine wp_seq_k fun K1 hK1=>wp_region_lit ?_
 refine ay O (fun K hK=>fC hF O ae rfl hA0 ku (fun b2 w1 a hb2 hF hA1=>hK _ _ ?_))
 refine aI<|hK1 _ _ ?_
 refine wS hF fun K2 hK2=>vX O<|vX O fun a hF=>?_
 refine ay O (fun K hK=>aB hF O ae JD rfl rfl ?_)
 with_reducible refine (CU w1 dom di hdi pa ps c n hn (hP.fresh hA1 (fG hb2)) hlen hnb).mono ?_
 rintro e' w2 ⟨v2,Y,rfl,hO,hc2⟩
 refine ⟨_,rfl,fun a hF=>hK _ _ ?_⟩
 have hOn:=hO.new
 obtain ⟨_,A2,c2,rfl,hc2l,hB2⟩:=Dv hO
 have hBw:=hB2 [] w2 hc2
 have hA2:At w (Y++[(b2,29,dc (List.replicate 32 0))]) w2:=hA1.thenNew hc2 hOn
 have hA2:At w [(b2,29,dc (List.replicate 32 0))] w2:=hA2.drop (List.sublist_append_right _ _) (fun r hr hlt=>by
  rcases List.mem_append.1 hr with hr | hr
  ·have:=hOn r hr; have:=hA1.size; omega
  ·exact hr)
 refine ay O (fun K hK=>aB hF O ae JL rfl rfl ?_)
 with_reducible refine (zO w2 A2 (dom::flat ps) c2 _ O hBw (by simp only [List.length_cons]; omega)).mono ?_
 rintro e' w3 ⟨rfl,hc3⟩
 refine ⟨_,rfl,fun a hF=>hK _ _ ?_⟩
 have hA3:=hA2.then0 hc3
 refine vR hF<|vX O fun a hF=>?_
 refine ay O (fun K hK=>aB hF O ae JA rfl rfl ?_)
 with_reducible refine (EP _ width w3 (eH _)).mono ?_
 rintro e' w4 ⟨rfl,hc4⟩
 refine ⟨_,rfl,fun a hF=>hK _ _ ?_⟩
 have hA4:=hA3.then0 hc4
 refine ay O (fun K hK=>ed hF O O hA4 O O 0 O (wX (dA _ _ (eH _))) (gG _) wY (fun w5 hA5=>hK _ _ ?_))
 refine aI<|hK2 _ _ ?_
 apply wp_ret
 refine jw hF Tryz.results118 hA5 O 0 O (jF (dA _ _ (eH _))) ?_
 exact ⟨rfl,hA5.clear (fG hb2)⟩
set_option maxRecDepth 100000 in
set_option maxHeartbeats 1000000 in
theorem CW (w:World) (width:Int) (X:Option Addr) (l:List UInt8) (c n:Nat) (hn:n=l.length) (hc:n≤c) (hB:Bts w X l) (hl:l.length<140737488353000) :
  Calls Tryz.prog 125 #[.int .i64 width,.slice X n c] w fun e w'=>e= .returned (.agg (dc (ofL width 0 l)).toArray)∧At w [] w':=by
 subst hn
 have hA0:=At.refl w
 refine aP Tryz.func125 O Tryz.ntmps125 ai (fun a hF=>?_)
 refine wp_seq_k fun K1 hK1=>wp_region_lit ?_
 refine ay O (fun K hK=>fC hF O ae rfl hA0 ku (fun b2 w1 a hb2 hF hA1=>hK _ _ ?_))
 refine aI<|hK1 _ _ ?_
 refine wS hF fun K2 hK2=>vX O<|vX O fun a hF=>?_
 refine ay O (fun K hK=>zo hF O ae rfl hA1 O (xe _ _ _) (fun b3 w2 a hb3 hF hA2=>hK _ _ ?_))
 have hnr:∀ r∈[((b3,27,[.slice X l.length c]):Row),(b2,29,dc (List.replicate 32 0))],w.heap.size≤r.1:=dm (by have:=hA1.size; omega) (fG hb2)
 have hP:Pieces w2 (some ⟨b3,0,none⟩) [(X,c,l)]:=Pieces.row hA2 (k:=0) rfl (fun A' c' l' h=>by
  obtain ⟨rfl,rfl,rfl⟩:A'=X∧c'=c∧l'=l:=by simpa using h
  exact ⟨hc,hB.fresh hA2 hnr⟩)
 refine ay O (fun K hK=>aB hF O ae BM rfl rfl ?_)
 with_reducible refine (A7 w2 width 0 0 O (some ⟨b3,0,none⟩) [(X,c,l)] 1 1 O hP (by rw [mM]; exact hl) ae).mono ?_
 rintro e' w3 ⟨rfl,hc3⟩
 refine ⟨_,rfl,fun a hF=>hK _ _ ?_⟩
 have hA3:=hA2.then0 hc3
 clear hc3
 rw [mM] at hF
 refine ay O (fun K hK=>ed hF O O hA3 O O 1 O (wX (eU _ _ _)) (gG _) wY (fun w4 hA4=>hK _ _ ?_))
 refine aI<|hK2 _ _ ?_
 apply wp_ret
 refine jw hF Tryz.results125 hA4 O 1 O (jF (eU _ _ _)) ?_
 exact ⟨rfl,hA4.clear (dm (by have:=hA1.size; omega) (fG hb2))⟩
set_option maxRecDepth 100000 in
set_option maxHeartbeats 1000000 in
theorem CV (w:World) (width:Int) (X Y:List UInt8) (hX:X.length=32) (hY:Y.length=32) :
  Calls Tryz.prog 124 #[.int .i64 width,.agg (dc X).toArray,.agg (dc Y).toArray] w fun e w'=>e= .returned (.agg (dc (ofL width 2 (X++Y))).toArray)∧At w [] w':=by
 have hA0:=At.refl w
 refine aP Tryz.func124 O Tryz.ntmps124 ai (fun a hF=>?_)
 refine wp_seq_k fun K1 hK1=>wp_region_lit ?_
 refine ay O (fun K hK=>oZ (cs:=dc X) hF O ae rfl hA0 O (fun b2 w1 a hb2 hF hA1=>hK _ _ ?_))
 refine ay O (fun K hK=>oZ (cs:=dc Y) hF O ae rfl hA1 O (fun b3 w2 a hb3 hF hA2=>hK _ _ ?_))
 have q3:w.heap.size≤b3:=by have:=hA1.size; omega
 refine ay O (fun K hK=>fC hF O ae rfl hA2 ku (fun b4 w3 a hb4 hF hA3=>hK _ _ ?_))
 replace hA3:At w [(b4,29,dc (List.replicate 32 0)),(b3,29,dc Y),(b2,29,dc X)] w3:=hA3
 refine aI<|hK1 _ _ ?_
 apply wp_seq_k; intro K2 hK2
 refine aT 4 [3,4,5] [0,1,2,3,4,5] (fun _=>True) af af (trivial) ?_
 refine pR hF<|pX O O<|pW O O (fun _=>gK O N7 fD rfl (.none 0) (.none 32) ag ag je)<|pW O O (fun _=>gK O N7 fD rfl (.none 0) (.none 32) ag ag je) fun a hF=>?_
 refine eY O O O (fun K hK=>Ej hF O ae rfl hA3.drew rfl rfl (wZ _ _ _ _ _ _) (fun b5 w4 a hb5 hF hA4=>hK _ _ (fun _=>trivial) ?_))
 have q4:w.heap.size≤b4:=by have:=hA2.size; omega
 have hnr:∀ r∈[((b5,27,[.slice (some ⟨b2,0,none⟩) 32 32,.slice (some ⟨b3,0,none⟩) 32 32]):Row),(b4,29,dc (List.replicate 32 0)),(b3,29,dc Y),(b2,29,dc X)],w.heap.size≤r.1:=dm (by have:=hA3.drew.size; omega) (dm q4 (dm q3 (fG hb2)))
 have hP:Pieces w4 (some ⟨b5,0,none⟩) [(some ⟨b2,0,none⟩,32,X),(some ⟨b3,0,none⟩,32,Y)]:=Pieces.row hA4 (k:=0) (by rw [List.map_cons,List.map_cons,hX,hY]; rfl) (fun A' c' l' h=>by
  rcases List.mem_cons.1 h with h | h
  ·obtain ⟨rfl,rfl,rfl⟩:A'=some ⟨b2,0,none⟩∧c'=32∧l'=X:=by simpa using h
   exact ⟨ ag,uT hX hA4 (k:=3) rfl⟩
  ·obtain ⟨rfl,rfl,rfl⟩:A'=some ⟨b3,0,none⟩∧c'=32∧l'=Y:=by simpa using h
   exact ⟨ ag,uT hY hA4 (k:=2) rfl⟩)
 refine eY O O O (fun K hK=>aB hF O ae BM rfl rfl ?_)
 with_reducible refine (A7 w4 width 2 2 O (some ⟨b5,0,none⟩) _ 2 2 O hP (by rw [oI,List.length_append]; omega) ae).mono ?_
 rintro e' w5 ⟨rfl,hc5⟩
 refine ⟨_,rfl,fun a hF=>hK _ _ (fun h=>absurd h ae) ?_⟩
 have hA5:=hA4.then0 hc5
 clear hc5
 rw [oI] at hF
 refine eY O O O (fun K hK=>ed hF O O hA5 O O 1 O (wX (eU _ _ _)) (gG _) wY (fun w6 hA6=>hK _ _ (fun h=>absurd h ae) ?_))
 refine bF ?_
 refine hK2 _ _ ?_
 apply wp_ret
 refine jw hF Tryz.results124 hA6 O 1 O (jF (eU _ _ _)) ?_
 exact ⟨rfl,hA6.clear (dm (by have:=hA3.drew.size; omega) (dm q4 (dm q3 (fG hb2))))⟩
end Go.Proofs.YtepbmdlgdaedpaaGreatDoor
