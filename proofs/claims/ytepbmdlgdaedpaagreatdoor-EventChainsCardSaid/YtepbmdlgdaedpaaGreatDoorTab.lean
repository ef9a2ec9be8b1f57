/- The digest's table: Of with whatever pieces, Text, and the sums. -/
import Derived.Test.YtepbmdlgdaedpaaGreatDoorLawSplits
import Derived.Test.YtepbmdlgdaedpaaGreatDoorOctetW
import Derived.Test.YtepbmdlgdaedpaaGreatDoorMore
/- The digest's table: Of with whatever pieces, Text, and the sums. -/
namespace Go.Proofs.YtepbmdlgdaedpaaGreatDoor
open Go.RowKit Go.Dk
theorem Pieces.fresh {w0 w:World} {L:List Row} {pa:Option Addr} {ps:List Part} (h:Pieces w0 pa ps) (hA:At w0 L w) (hn:∀ r∈L,w0.heap.size≤(r:Row).1):Pieces w pa ps:=by
 refine ⟨fun hne=>?_,fun A c l hm=>⟨(h.2 A c l hm).1,(h.2 A c l hm).2.fresh hA hn⟩⟩
 obtain ⟨b,o,he,hb,hc⟩:=h.1 hne
 refine ⟨b,o,he,Nat.lt_of_lt_of_le hb hA.size,fun i A c l hi=>?_⟩
 rw [hA.old hb (fun hm=>by
  obtain ⟨r,hr,e⟩:=List.mem_map.1 hm
  have h1:=hn r hr
  have h2:r.1=b:=e
  omega)]
 exact hc i A c l hi
theorem Pieces.nil (w:World):Pieces w none []:=⟨fun h=>absurd rfl h,fun _ _ _ h=>by cases h⟩
theorem Pieces.row {w0 w:World} {L:List Row} {g k:Nat} {t:TypeId} {ps:List Part} (hA:At w0 L w) (hk:L[k]? = some (g,t,ps.map fun p=>Value.slice p.1 p.2.2.length p.2.1)) (hp:∀ A c l,(A,c,l)∈ps→l.length≤c∧Bts w A l):Pieces w (some ⟨g,0,none⟩) ps:=by
 refine ⟨fun _=>⟨g,0,rfl,hA.lt hk,fun i A c l hi=>?_⟩,hp⟩
 rw [Nat.zero_add,hA.cell hk,List.getElem?_map,hi]
 rfl
theorem xe (A:Option Addr) (n c:Nat) (w:World):(Instr.buildSlice 63 1 #[(0,.slice A n c)]).run Tryz.prog w= .ok (.slice (some ⟨w.heap.size,0,none⟩) 1 1) (w.alloc (.cells #[.slice A n c] 27)):=af
theorem wZ (A B:Option Addr) (n c m d:Nat) (w:World):(Instr.buildSlice 63 2 #[(0,.slice A n c),(1,.slice B m d)]).run Tryz.prog w= .ok (.slice (some ⟨w.heap.size,0,none⟩) 2 2) (w.alloc (.cells #[.slice A n c,.slice B m d] 27)):=af
def ofL (width:Int) (dom:UInt8) (l:List UInt8):List UInt8:=kL (sha (dom::l)) width
theorem eU (width:Int) (dom:UInt8) (l:List UInt8):(ofL width dom l).length=32:=dA _ _ (eH _)
theorem mM (A:Option Addr) (c:Nat) (l:List UInt8):flat [(A,c,l)]=l:=by simp [flat]
theorem oI (A B:Option Addr) (c d:Nat) (l m:List UInt8):flat [(A,c,l),(B,d,m)]=l++m:=by simp [flat]
theorem jF {D:List UInt8} (h:D.length=32):isRow Tryz.prog 29 (dc D).length=true:=by rw [aK,h]; exact AZ
theorem wX {D:List UInt8} (h:D.length=32):(dc D).length=(dc (List.replicate 32 (0:UInt8))).length:=by rw [aK,h]; rfl
theorem wY:(Tryz.prog.info? 29).map (·.size)=some (dc (List.replicate 32 (0:UInt8))).length:=by rw [zF]; rfl
theorem uT {D:List UInt8} (_h:D.length=32) {w0 w:World} {L:List Row} {g k:Nat} {t:TypeId} (hA:At w0 L w) (hk:L[k]? = some (g,t,dc D)):Bts w (some ⟨g,0,none⟩) D:=Bts.row hA hk (by rw [List.drop_zero]; exact NZ (by rw [aK]; exact NV _))
theorem Ij:(Tryz.prog.info? 27).map (·.size)=some 1:=af
theorem JO:aQ Tryz.prog 162:=⟨_,Tryz.func162,af,af⟩
theorem BU:aQ Tryz.prog 163:=⟨_,Tryz.func163,af,af⟩
theorem JM:aQ Tryz.prog 165:=⟨_,Tryz.func165,af,af⟩
theorem BO:aQ Tryz.prog 117:=⟨_,Tryz.func117,af,af⟩
theorem JB:aQ Tryz.prog 164:=⟨_,Tryz.func164,af,af⟩
set_option maxRecDepth 100000 in
set_option maxHeartbeats 1000000 in
theorem EX (w:World) (width:Int) (dom:UInt8) (di:Int) (hdi:IntKind.u8.wrap di=(dom.toNat:Int)) (pa:Option Addr) (ps:List Part) (c n:Nat) (hn:n=ps.length) (hP:Pieces w pa ps) (hlen:(flat ps).length<140737488355000) (hnb:n<9223372036854775807) (hT:Tab w) :
  Calls Tryz.prog 117 #[.int .i64 width,.int .i64 di,.slice pa n c] w fun e w'=>e= .returned (.agg (dc (ofL width dom (flat ps))).toArray)∧At w [] w':=by
 subst hn
 have hA0:=At.refl w
 have hpos:2<w.heap.size:=hT.lt
 have hfl:∀ j,(flat (ps.take j)).length≤(flat ps).length:=fun j=>by
  have h2:flat ps=flat (ps.take j)++flat (ps.drop j):=by unfold flat; rw [← List.flatMap_append,List.take_append_drop]
  rw [h2,List.length_append]; omega
 refine aP Tryz.func117 O Tryz.ntmps117 ai (fun a hF=>?_)
 refine wp_seq_k fun K1 hK1=>wp_region_lit ?_
 refine ay O (fun K hK=>fC hF O ae rfl hA0 ku (fun b2 w1 a hb2 hF hA1=>hK _ _ ?_))
 refine aI<|hK1 _ _ ?_
 refine wp_seq_k fun K2 hK2=>wp_region_lit ?_
 refine ay O (fun K hK=>aB hF O ae JO rfl rfl ?_)
 with_reducible refine (new_any w1).mono ?_
 rintro e' w2 ⟨b3,cs0,rfl,hb3,hH0,hc2⟩
 refine ⟨_,rfl,fun a hF=>hK _ _ ?_⟩
 have hA2:At w [(b3,246,cs0),(b2,29,dc (List.replicate 32 0))] w2:=hA1.thenNew hc2 (fG hb3)
 clear hc2
 have q3:w.heap.size≤b3:=by have:=hA1.size; omega
 have l3:b2<b3:=by have:=hA1.lt (k:=0) rfl; omega
 refine vR hF<|vX O<|vE hK2<|wT fun K3 hK3=>vX O<|vX O<|vV O (bJ O Oa Oi O hdi) fun a hF=>?_
 refine ay O (fun K hK=>qQ hF O ae rfl hA2 dom rfl sH (fun b4 w3 a hb4 hF hA3=>hK _ _ ?_))
 have q4:w.heap.size≤b4:=by have:=hA2.size; omega
 have l4:b3<b4:=by have:=hA2.lt (k:=0) rfl; omega
 have hnr:∀ cs,∀ r∈[(b4,5,dc [dom]),(b3,246,cs),(b2,29,dc (List.replicate 32 0))],w.heap.size≤(r:Row).1:=fun _=>dm q4 (dm q3 (fG hb2))
 refine ay O (fun K hK=>aB hF O ae BU rfl rfl ?_)
 with_reducible refine (wP w3 b3 [] cs0 hH0 (hA3.row (k:=1) rfl) (some ⟨b4,0,none⟩) [dom] 1 1 O (Bts.row hA3 (k:=0) rfl rfl) (NV _) (fun _=>EW ag) (by simp) (hT.at_ hA3 (xW hpos (hnr _))) ag).mono ?_
 rintro e' w4 ⟨rfl,cs1,hH1,hc4⟩
 refine ⟨_,rfl,fun a hF=>hK _ _ ?_⟩
 have hA4:At w [(b4,5,dc [dom]),(b3,246,cs1),(b2,29,dc (List.replicate 32 0))] w4:=hA3.then1 (k:=1) rfl hc4
 clear hc4
 replace hH1:HS (dom::flat (ps.take 0)) cs1:=hH1
 refine aI<|hK3 _ _ ?_
 apply wp_seq_k; intro K4 hK4
 refine wS hF fun K5 hK5=>vX O<|vV O (aX O Oq O O)<|vX O<|vE hK5<|wBk fun a hF=>?_
 refine bH (G:=Nat) (fun i a x=>i≤ps.length∧∃ cs,Fr 30 [(18,.int .i64 (i:Int)),(0,.int .i64 width),(7,.pointer (some ⟨b3,0,none⟩)),(6,.pointer (some ⟨b2,0,none⟩)),(16,.slice pa ps.length c),(17,.int .i64 (ps.length:Int))] a∧HS (dom::flat (ps.take i)) cs∧At w [(b4,5,dc [dom]),(b3,246,cs),(b2,29,dc (List.replicate 32 0))] x) (fun i=>ps.length-i) 0 ⟨NR _,cs1,hF.keep [18,0,7,6,16,17] rfl,hH1,hA4⟩ ?_
 clear hF
 rintro i a wr ⟨hi,cs,hF,hH,hAr⟩
 by_cases hlt:i<ps.length
 ·have hPr:=hP.fresh hAr (hnr cs)
  have hne:ps≠[]:=fun e=>by rw [e] at hlt; exact absurd hlt (Nat.not_lt_zero _)
  obtain ⟨b,o,rfl,hbl,hcells⟩:=hPr.1 hne
  obtain ⟨⟨A,cA,l⟩,hp⟩:∃ q,ps[i]? = some q:=⟨_,List.getElem?_eq_getElem hlt⟩
  have hcell:=hcells i A cA l hp
  obtain ⟨hlc,hBl⟩:=hPr.2 A cA l (List.mem_of_getElem? hp)
  have hB0:=(hP.2 A cA l (List.mem_of_getElem? hp)).2
  have hft:=pI hp
  have hfle:=Bz hp
  have hfi:=hfl i
  refine wS hF fun K6 hK6=>vV O (az O O O O O)<|vE hK6<|wQ fun K7 hK7 a hF=>?_
  refine aF hF O (dS ag) ?_
  apply wp_skip
  refine hK7 _ _ ?_
  apply wp_seq_k; intro K8 hK8
  apply wp_block
  refine wS hF fun K9 hK9=>vV O (cO O Oq Ij O O i rfl hlt (ad2 _ _ _))<|vV O (lw O O hcell MN)<|vX O<|vE hK9 fun a hF=>?_
  refine wp_region_lit ?_
  refine vR hF<|vX O<|vX O fun a hF=>?_
  refine ay O (fun K hK=>aB hF O ae BU rfl rfl ?_)
  with_reducible refine (wP wr b3 _ cs hH (hAr.row (k:=1) rfl) A l cA l.length rfl hBl hlc (JU hB0 q3) (by simp only [List.length_cons]; omega) (hT.at_ hAr (xW hpos (hnr _))) ag).mono ?_
  rintro e' w6 ⟨rfl,cs2,hH2,hc6⟩
  refine ⟨_,rfl,fun a hF=>hK _ _ ?_⟩
  have hA6:At w [(b4,5,dc [dom]),(b3,246,cs2),(b2,29,dc (List.replicate 32 0))] w6:=hAr.then1 (k:=1) rfl hc6
  clear hc6
  replace hH2:HS (dom::flat (ps.take (i+1))) cs2:=by rw [hft]; exact hH2
  refine aI<|hK8 _ _ ?_
  refine wp_region_lit ?_
  refine vR hF<|vV O (bz O O O (NS _ ag))<|vX O fun a hF=>?_
  refine aI ?_
  exact ⟨i+1,ag,ag,cs2,hF.keep [18,0,7,6,16,17] rfl,hH2,hA6⟩
 ·obtain rfl:i=ps.length:=by omega
  rw [yx] at hH
  refine wS hF fun K10 hK10=>vV O (az O O O O O)<|vE hK10<|wQ fun K11 hK11 a hF=>?_
  refine au hF O (dO ag) ?_
  apply wp_exit
  refine hK4 _ _ ?_
  refine wS hF fun K12 hK12=>vX O fun a hF=>?_
  refine ay O (fun K hK=>aB hF O ae JM rfl rfl ?_)
  with_reducible refine (sum_any wr b3 _ cs hH (hAr.row (k:=1) rfl) (by simp only [List.length_cons]; omega) (hT.at_ hAr (xW hpos (hnr _))) ag).mono ?_
  rintro e' w7 ⟨rfl,hc7⟩
  refine ⟨_,rfl,fun a hF=>hK _ _ ?_⟩
  have hA7:At w [(b4,5,dc [dom]),(b3,246,cs),(b2,29,dc (List.replicate 32 0))] w7:=hAr.then0 hc7
  clear hc7
  refine vR hF<|vX O fun a hF=>?_
  refine ay O (fun K hK=>aB hF O ae JB rfl rfl ?_)
  with_reducible refine (Jj _ width w7 (eH _)).mono ?_
  rintro e' w8 ⟨rfl,hc8⟩
  refine ⟨_,rfl,fun a hF=>hK _ _ ?_⟩
  have hA8:At w [(b4,5,dc [dom]),(b3,246,cs),(b2,29,dc (List.replicate 32 0))] w8:=hA7.then0 hc8
  clear hc8
  refine ay O (fun K hK=>ed hF O O hA8 O O 2 O (wX (dA _ _ (eH _))) (gG _) wY (fun w9 hA9=>hK _ _ ?_))
  refine aI<|hK12 _ _ ?_
  apply wp_ret
  refine jw hF Tryz.results117 hA9 O 2 O (jF (dA _ _ (eH _))) ?_
  exact ⟨rfl,hA9.clear (dm q4 (dm q3 (fG hb2)))⟩
set_option maxRecDepth 100000 in
set_option maxHeartbeats 1000000 in
theorem Fh (w:World) (width:Int) (X:Option Addr) (l:List UInt8) (c n:Nat) (hn:n=l.length) (hc:n≤c) (hB:Bts w X l) (hl:l.length<140737488355000) (hT:Tab w) :
  Calls Tryz.prog 123 #[.int .i64 width,.slice X n c] w fun e w'=>e= .returned (.agg (dc (ofL width 0 l)).toArray)∧At w [] w':=by
 subst hn
 have hA0:=At.refl w
 have hpos:2<w.heap.size:=hT.lt
 refine aP Tryz.func123 O Tryz.ntmps123 ai (fun a hF=>?_)
 refine wp_seq_k fun K1 hK1=>wp_region_lit ?_
 refine ay O (fun K hK=>fC hF O ae rfl hA0 ku (fun b2 w1 a hb2 hF hA1=>hK _ _ ?_))
 refine aI<|hK1 _ _ ?_
 refine wS hF fun K2 hK2=>vX O<|vX O fun a hF=>?_
 refine ay O (fun K hK=>zo hF O ae rfl hA1 O (xe _ _ _) (fun b3 w2 a hb3 hF hA2=>hK _ _ ?_))
 have hnr:∀ r∈[((b3,27,[.slice X l.length c]):Row),(b2,29,dc (List.replicate 32 0))],w.heap.size≤r.1:=dm (by have:=hA1.size; omega) (fG hb2)
 have hP:Pieces w2 (some ⟨b3,0,none⟩) [(X,c,l)]:=Pieces.row hA2 (k:=0) rfl (fun A' c' l' h=>by
  obtain ⟨rfl,rfl,rfl⟩:A'=X∧c'=c∧l'=l:=by simpa using h
  exact ⟨hc,hB.fresh hA2 hnr⟩)
 refine ay O (fun K hK=>aB hF O ae BO rfl rfl ?_)
 with_reducible refine (EX w2 width 0 0 O (some ⟨b3,0,none⟩) [(X,c,l)] 1 1 O hP (by rw [mM]; exact hl) ae (hT.at_ hA2 (xW hpos hnr))).mono ?_
 rintro e' w3 ⟨rfl,hc3⟩
 refine ⟨_,rfl,fun a hF=>hK _ _ ?_⟩
 have hA3:=hA2.then0 hc3
 clear hc3
 rw [mM] at hF
 refine ay O (fun K hK=>ed hF O O hA3 O O 1 O (wX (eU _ _ _)) (gG _) wY (fun w4 hA4=>hK _ _ ?_))
 refine aI<|hK2 _ _ ?_
 apply wp_ret
 refine jw hF Tryz.results123 hA4 O 1 O (jF (eU _ _ _)) ?_
 exact ⟨rfl,hA4.clear (dm (by have:=hA1.size; omega) (fG hb2))⟩
set_option maxRecDepth 100000 in
set_option maxHeartbeats 1000000 in
theorem link_any (w:World) (width:Int) (X Y:List UInt8) (hX:X.length=32) (hY:Y.length=32) (hT:Tab w) :
  Calls Tryz.prog 122 #[.int .i64 width,.agg (dc X).toArray,.agg (dc Y).toArray] w fun e w'=>e= .returned (.agg (dc (ofL width 2 (X++Y))).toArray)∧At w [] w':=by
 have hA0:=At.refl w
 have hpos:2<w.heap.size:=hT.lt
 refine aP Tryz.func122 O Tryz.ntmps122 ai (fun a hF=>?_)
 refine wp_seq_k fun K1 hK1=>wp_region_lit ?_
 refine ay O (fun K hK=>oZ (cs:=dc X) hF O ae rfl hA0 O (fun b2 w1 a hb2 hF hA1=>hK _ _ ?_))
 refine ay O (fun K hK=>oZ (cs:=dc Y) hF O ae rfl hA1 O (fun b3 w2 a hb3 hF hA2=>hK _ _ ?_))
 have q3:w.heap.size≤b3:=by have:=hA1.size; omega
 refine ay O (fun K hK=>fC hF O ae rfl hA2 ku (fun b4 w3 a hb4 hF hA3=>hK _ _ ?_))
 replace hA3:At w [(b4,29,dc (List.replicate 32 0)),(b3,29,dc Y),(b2,29,dc X)] w3:=hA3
 refine aI<|hK1 _ _ ?_
 apply wp_seq_k; intro K2 hK2
 refine aT 4 [3,4,5] [0,1,2,3,4,5] (fun _=>True) af af (trivial) ?_
 refine pR hF<|pX O O<|pW O O (fun _=>gK O N7 fD rfl (.none 0) (.none 32) ag ag je)<|pW O O (fun _=>gK O N7 fD rfl (.none 0) (.none 32) ag ag je) fun a hF=>?_
 refine eY O O O (fun K hK=>Ej hF O ae rfl hA3.drew rfl rfl (wZ _ _ _ _ _ _) (fun b5 w4 a hb5 hF hA4=>hK _ _ (fun _=>trivial) ?_))
 have q4:w.heap.size≤b4:=by have:=hA2.size; omega
 have hnr:∀ r∈[((b5,27,[.slice (some ⟨b2,0,none⟩) 32 32,.slice (some ⟨b3,0,none⟩) 32 32]):Row),(b4,29,dc (List.replicate 32 0)),(b3,29,dc Y),(b2,29,dc X)],w.heap.size≤r.1:=dm (by have:=hA3.drew.size; omega) (dm q4 (dm q3 (fG hb2)))
 have hP:Pieces w4 (some ⟨b5,0,none⟩) [(some ⟨b2,0,none⟩,32,X),(some ⟨b3,0,none⟩,32,Y)]:=Pieces.row hA4 (k:=0) (by rw [List.map_cons,List.map_cons,hX,hY]; rfl) (fun A' c' l' h=>by
  rcases List.mem_cons.1 h with h | h
  ·obtain ⟨rfl,rfl,rfl⟩:A'=some ⟨b2,0,none⟩∧c'=32∧l'=X:=by simpa using h
   exact ⟨ ag,uT hX hA4 (k:=3) rfl⟩
  ·obtain ⟨rfl,rfl,rfl⟩:A'=some ⟨b3,0,none⟩∧c'=32∧l'=Y:=by simpa using h
   exact ⟨ ag,uT hY hA4 (k:=2) rfl⟩)
 refine eY O O O (fun K hK=>aB hF O ae BO rfl rfl ?_)
 with_reducible refine (EX w4 width 2 2 O (some ⟨b5,0,none⟩) _ 2 2 O hP (by rw [oI,List.length_append]; omega) ae (hT.at_ hA4 (xW hpos hnr))).mono ?_
 rintro e' w5 ⟨rfl,hc5⟩
 refine ⟨_,rfl,fun a hF=>hK _ _ (fun h=>absurd h ae) ?_⟩
 have hA5:=hA4.then0 hc5
 clear hc5
 rw [oI] at hF
 refine eY O O O (fun K hK=>ed hF O O hA5 O O 1 O (wX (eU _ _ _)) (gG _) wY (fun w6 hA6=>hK _ _ (fun h=>absurd h ae) ?_))
 refine bF ?_
 refine hK2 _ _ ?_
 apply wp_ret
 refine jw hF Tryz.results122 hA6 O 1 O (jF (eU _ _ _)) ?_
 exact ⟨rfl,hA6.clear (dm (by have:=hA3.drew.size; omega) (dm q4 (dm q3 (fG hb2))))⟩
end Go.Proofs.YtepbmdlgdaedpaaGreatDoor
