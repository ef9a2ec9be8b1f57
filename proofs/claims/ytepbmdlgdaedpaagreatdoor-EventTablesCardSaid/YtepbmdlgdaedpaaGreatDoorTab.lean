/- The digest's table: Of with whatever pieces, Text, and the sums. -/
import Derived.Test.YtepbmdlgdaedpaaGreatDoorLawSplits
import Derived.Test.YtepbmdlgdaedpaaGreatDoorOctetW
import Derived.Test.YtepbmdlgdaedpaaGreatDoorMore
/- The digest's table: Of with whatever pieces, Text, and the sums. -/
namespace Go.Proofs.YtepbmdlgdaedpaaGreatDoor
open Go.RowKit Go.Dk
theorem Pieces.fresh {w0 w:World} {L:List Row} {pa:Option Addr} {ps:List Part} (h:Pieces w0 pa ps) (hA:At w0 L w) (hn:∀ r∈L,w0.heap.size≤(r:Row).1):Pieces w pa ps:=by
 refine ⟨fun hne=>?_,fun A c l hm=>⟨(h.2 A c l hm).1,(h.2 A c l hm).2.fresh hA hn⟩⟩
 obtain ⟨b,o,he,hb,hc⟩:=h.1 hne
 refine ⟨b,o,he,Nat.lt_of_lt_of_le hb hA.size,fun i A c l hi=>?_⟩
 rw [hA.old hb (fun hm=>by
  obtain ⟨r,hr,e⟩:=List.mem_map.1 hm
  have h1:=hn r hr
  have h2:r.1=b:=e
  omega)]
 exact hc i A c l hi
theorem Pieces.nil (w:World):Pieces w none []:=⟨fun h=>absurd rfl h,fun _ _ _ h=>by cases h⟩
theorem Pieces.row {w0 w:World} {L:List Row} {g k:Nat} {t:TypeId} {ps:List Part} (hA:At w0 L w) (hk:L[k]? = some (g,t,ps.map fun p=>Value.slice p.1 p.2.2.length p.2.1)) (hp:∀ A c l,(A,c,l)∈ps→l.length≤c∧Bts w A l):Pieces w (some ⟨g,0,none⟩) ps:=by
 refine ⟨fun _=>⟨g,0,rfl,hA.lt hk,fun i A c l hi=>?_⟩,hp⟩
 rw [Nat.zero_add,hA.cell hk,List.getElem?_map,hi]
 rfl
def ofL (width:Int) (dom:UInt8) (l:List UInt8):List UInt8:=kN (sha (dom::l)) width
theorem jE (width:Int) (dom:UInt8) (l:List UInt8):(ofL width dom l).length=32:=dE _ _ (eY _)
theorem oI {D:List UInt8} (h:D.length=32):isRow Tryz.prog 29 (dc D).length=true:=by rw [aI,h]; exact CP
theorem JM {D:List UInt8} (h:D.length=32):(dc D).length=(dc (List.replicate 32 (0:UInt8))).length:=by rw [aI,h]; rfl
theorem JO:(Tryz.prog.info? 29).map (·.size)=some (dc (List.replicate 32 (0:UInt8))).length:=by rw [AA]; rfl
theorem JP:(Tryz.prog.info? 27).map (·.size)=some 1:=af
theorem MB:aP Tryz.prog 162:=⟨_,Tryz.func162,af,af⟩
theorem DL:aP Tryz.prog 163:=⟨_,Tryz.func163,af,af⟩
theorem Me:aP Tryz.prog 165:=⟨_,Tryz.func165,af,af⟩
theorem LU:aP Tryz.prog 164:=⟨_,Tryz.func164,af,af⟩
set_option maxRecDepth 100000 in
set_option maxHeartbeats 1000000 in
theorem NM (w:World) (width:Int) (dom:UInt8) (di:Int) (hdi:IntKind.u8.wrap di=(dom.toNat:Int)) (pa:Option Addr) (ps:List Part) (c n:Nat) (hn:n=ps.length) (hP:Pieces w pa ps) (hlen:(flat ps).length<140737488355000) (hnb:n<9223372036854775807) (hT:Tab w) :
  Calls Tryz.prog 117 #[.int .i64 width,.int .i64 di,.slice pa n c] w fun e w'=>e= .returned (.agg (dc (ofL width dom (flat ps))).toArray)∧At w [] w':=by
 subst hn
 have hA0:=At.refl w
 have hpos:2<w.heap.size:=hT.lt
 have hfl:∀ j,(flat (ps.take j)).length≤(flat ps).length:=fun j=>by
  have h2:flat ps=flat (ps.take j)++flat (ps.drop j):=by unfold flat; rw [← List.flatMap_append,List.take_append_drop]
  rw [h2,List.length_append]; omega
 refine aQ Tryz.func117 O Tryz.ntmps117 ai (fun a hF=>?_)
 refine wp_seq_k fun K1 hK1=>wp_region_lit ?_
 refine az O (fun K hK=>iI hF O ae rfl hA0 nU (fun b2 w1 a hb2 hF hA1=>hK _ _ ?_))
 refine aG<|hK1 _ _ ?_
 refine wp_seq_k fun K2 hK2=>wp_region_lit ?_
 refine az O (fun K hK=>ay hF O ae MB rfl rfl ?_)
 with_reducible refine (new_any w1).mono ?_
 rintro e' w2 ⟨b3,cs0,rfl,hb3,hH0,hc2⟩
 refine ⟨_,rfl,fun a hF=>hK _ _ ?_⟩
 have hA2:At w [(b3,246,cs0),(b2,29,dc (List.replicate 32 0))] w2:=hA1.thenNew hc2 (kS hb3)
 clear hc2
 have q3:w.heap.size≤b3:=by have:=hA1.size; omega
 have l3:b2<b3:=by have:=hA1.lt (k:=0) rfl; omega
 refine vR hF<|vX O<|vE hK2<|wT fun K3 hK3=>vX O<|vX O<|vV O (bJ O Qb PW O hdi) fun a hF=>?_
 refine az O (fun K hK=>rX hF O ae rfl hA2 dom rfl ut (fun b4 w3 a hb4 hF hA3=>hK _ _ ?_))
 have q4:w.heap.size≤b4:=by have:=hA2.size; omega
 have l4:b3<b4:=by have:=hA2.lt (k:=0) rfl; omega
 have hnr:∀ cs,∀ r∈[(b4,5,dc [dom]),(b3,246,cs),(b2,29,dc (List.replicate 32 0))],w.heap.size≤(r:Row).1:=fun _=>lF q4 (lF q3 (kS hb2))
 refine az O (fun K hK=>ay hF O ae DL rfl rfl ?_)
 with_reducible refine (xR w3 b3 [] cs0 hH0 (hA3.row (k:=1) rfl) (some ⟨b4,0,none⟩) [dom] 1 1 O (Bts.row hA3 (k:=0) rfl rfl) (P5 _) (fun _=>GM ag) (by simp) (hT.at_ hA3 (GV hpos (hnr _))) ag).mono ?_
 rintro e' w4 ⟨rfl,cs1,hH1,hc4⟩
 refine ⟨_,rfl,fun a hF=>hK _ _ ?_⟩
 have hA4:At w [(b4,5,dc [dom]),(b3,246,cs1),(b2,29,dc (List.replicate 32 0))] w4:=hA3.then1 (k:=1) rfl hc4
 clear hc4
 replace hH1:HS (dom::flat (ps.take 0)) cs1:=hH1
 refine aG<|hK3 _ _ ?_
 apply wp_seq_k; intro K4 hK4
 refine wS hF fun K5 hK5=>vX O<|vV O (aU O Qu O O)<|vX O<|vE hK5<|wBk fun a hF=>?_
 refine bH (G:=Nat) (fun i a x=>i≤ps.length∧∃ cs,Fr 30 [(18,.int .i64 (i:Int)),(0,.int .i64 width),(7,.pointer (some ⟨b3,0,none⟩)),(6,.pointer (some ⟨b2,0,none⟩)),(16,.slice pa ps.length c),(17,.int .i64 (ps.length:Int))] a∧HS (dom::flat (ps.take i)) cs∧At w [(b4,5,dc [dom]),(b3,246,cs),(b2,29,dc (List.replicate 32 0))] x) (fun i=>ps.length-i) 0 ⟨PU _,cs1,hF.keep [18,0,7,6,16,17] rfl,hH1,hA4⟩ ?_
 clear hF
 rintro i a wr ⟨hi,cs,hF,hH,hAr⟩
 by_cases hlt:i<ps.length
 ·have hPr:=hP.fresh hAr (hnr cs)
  have hne:ps≠[]:=fun e=>by rw [e] at hlt; exact absurd hlt (Nat.not_lt_zero _)
  obtain ⟨b,o,rfl,hbl,hcells⟩:=hPr.1 hne
  obtain ⟨⟨A,cA,l⟩,hp⟩:∃ q,ps[i]? = some q:=⟨_,List.getElem?_eq_getElem hlt⟩
  have hcell:=hcells i A cA l hp
  obtain ⟨hlc,hBl⟩:=hPr.2 A cA l (List.mem_of_getElem? hp)
  have hB0:=(hP.2 A cA l (List.mem_of_getElem? hp)).2
  have hft:=qw hp
  have hfle:=Dj hp
  have hfi:=hfl i
  refine wS hF fun K6 hK6=>vV O (aB O O O O O)<|vE hK6<|wQ fun K7 hK7 a hF=>?_
  refine aF hF O (dB ag) ?_
  apply wp_skip
  refine hK7 _ _ ?_
  apply wp_seq_k; intro K8 hK8
  apply wp_block
  refine wS hF fun K9 hK9=>vV O (bF O Qu JP O O i rfl hlt (ad2 _ _ _))<|vV O (lH O O hcell O0)<|vX O<|vE hK9 fun a hF=>?_
  refine wp_region_lit ?_
  refine vR hF<|vX O<|vX O fun a hF=>?_
  refine az O (fun K hK=>ay hF O ae DL rfl rfl ?_)
  with_reducible refine (xR wr b3 _ cs hH (hAr.row (k:=1) rfl) A l cA l.length rfl hBl hlc (MF hB0 q3) (by simp only [List.length_cons]; omega) (hT.at_ hAr (GV hpos (hnr _))) ag).mono ?_
  rintro e' w6 ⟨rfl,cs2,hH2,hc6⟩
  refine ⟨_,rfl,fun a hF=>hK _ _ ?_⟩
  have hA6:At w [(b4,5,dc [dom]),(b3,246,cs2),(b2,29,dc (List.replicate 32 0))] w6:=hAr.then1 (k:=1) rfl hc6
  clear hc6
  replace hH2:HS (dom::flat (ps.take (i+1))) cs2:=by rw [hft]; exact hH2
  refine aG<|hK8 _ _ ?_
  refine wp_region_lit ?_
  refine vR hF<|vV O (bn O O O (PX _ ag))<|vX O fun a hF=>?_
  refine aG ?_
  exact ⟨i+1,ag,ag,cs2,hF.keep [18,0,7,6,16,17] rfl,hH2,hA6⟩
 ·obtain rfl:i=ps.length:=by omega
  rw [zl] at hH
  refine wS hF fun K10 hK10=>vV O (aB O O O O O)<|vE hK10<|wQ fun K11 hK11 a hF=>?_
  refine au hF O (dA ag) ?_
  apply wp_exit
  refine hK4 _ _ ?_
  refine wS hF fun K12 hK12=>vX O fun a hF=>?_
  refine az O (fun K hK=>ay hF O ae Me rfl rfl ?_)
  with_reducible refine (sum_any wr b3 _ cs hH (hAr.row (k:=1) rfl) (by simp only [List.length_cons]; omega) (hT.at_ hAr (GV hpos (hnr _))) ag).mono ?_
  rintro e' w7 ⟨rfl,hc7⟩
  refine ⟨_,rfl,fun a hF=>hK _ _ ?_⟩
  have hA7:At w [(b4,5,dc [dom]),(b3,246,cs),(b2,29,dc (List.replicate 32 0))] w7:=hAr.then0 hc7
  clear hc7
  refine vR hF<|vX O fun a hF=>?_
  refine az O (fun K hK=>ay hF O ae LU rfl rfl ?_)
  with_reducible refine (Lh _ width w7 (eY _)).mono ?_
  rintro e' w8 ⟨rfl,hc8⟩
  refine ⟨_,rfl,fun a hF=>hK _ _ ?_⟩
  have hA8:At w [(b4,5,dc [dom]),(b3,246,cs),(b2,29,dc (List.replicate 32 0))] w8:=hA7.then0 hc8
  clear hc8
  refine az O (fun K hK=>iZ hF O O hA8 O O 2 O (JM (dE _ _ (eY _))) (iw _) JO (fun w9 hA9=>hK _ _ ?_))
  refine aG<|hK12 _ _ ?_
  apply wp_ret
  refine ni hF Tryz.results117 hA9 O 2 O (oI (dE _ _ (eY _))) ?_
  exact ⟨rfl,hA9.clear (lF q4 (lF q3 (kS hb2)))⟩
end Go.Proofs.YtepbmdlgdaedpaaGreatDoor
