/- Texts that belong together, one behind the other. -/
import Derived.Test.YtepbmdlgdaedpaaGreatDoorLawSplits
import Derived.Test.YtepbmdlgdaedpaaGreatDoorOctetW
import Derived.Test.YtepbmdlgdaedpaaGreatDoorMore
import Derived.Test.YtepbmdlgdaedpaaGreatDoorMap
namespace Go.Proofs.YtepbmdlgdaedpaaGreatDoor
open Go.RowKit Go.Dk
theorem Pieces.fresh {w0 w:World} {L:List Row} {pa:Option Addr} {ps:List Part} (h:Pieces w0 pa ps) (hA:At w0 L w) (hn:∀ r∈L,w0.heap.size≤(r:Row).1):Pieces w pa ps:=by
 refine ⟨fun hne=>?_,fun A c l hm=>⟨(h.2 A c l hm).1,(h.2 A c l hm).2.fresh hA hn⟩⟩
 obtain ⟨b,o,he,hb,hc⟩:=h.1 hne
 refine ⟨b,o,he,Nat.lt_of_lt_of_le hb hA.size,fun i A c l hi=>?_⟩
 rw [hA.old hb (fun hm=>by
  obtain ⟨r,hr,e⟩:=List.mem_map.1 hm
  have h1:=hn r hr
  have h2:r.1=b:=e
  omega)]
 exact hc i A c l hi
theorem Pieces.nil (w:World):Pieces w none []:=⟨fun h=>absurd rfl h,fun _ _ _ h=>by cases h⟩
theorem Pieces.row {w0 w:World} {L:List Row} {g k:Nat} {t:TypeId} {ps:List Part} (hA:At w0 L w) (hk:L[k]? = some (g,t,ps.map fun p=>Value.slice p.1 p.2.2.length p.2.1)) (hp:∀ A c l,(A,c,l)∈ps→l.length≤c∧Bts w A l):Pieces w (some ⟨g,0,none⟩) ps:=by
 refine ⟨fun _=>⟨g,0,rfl,hA.lt hk,fun i A c l hi=>?_⟩,hp⟩
 rw [Nat.zero_add,hA.cell hk,List.getElem?_map,hi]
 rfl
def ofL (width:Int) (dom:UInt8) (l:List UInt8):List UInt8:=kY (sha (dom::l)) width
theorem jO (width:Int) (dom:UInt8) (l:List UInt8):(ofL width dom l).length=32:=dJ _ _ (fF _)
theorem pg {D:List UInt8} (h:D.length=32):isRow Tryz.prog 29 (dc D).length=true:=by rw [aN,h]; exact Dc
theorem J7 {D:List UInt8} (h:D.length=32):(dc D).length=(dc (List.replicate 32 (0:UInt8))).length:=by rw [aN,h]; rfl
theorem J8:(Tryz.prog.info? 29).map (·.size)=some (dc (List.replicate 32 (0:UInt8))).length:=by rw [Bd]; rfl
theorem J9:(Tryz.prog.info? 27).map (·.size)=some 1:=af
theorem MW:aP Tryz.prog 162:=⟨_,Tryz.func162,af,af⟩
theorem D8:aP Tryz.prog 163:=⟨_,Tryz.func163,af,af⟩
theorem MV:aP Tryz.prog 165:=⟨_,Tryz.func165,af,af⟩
theorem MI:aP Tryz.prog 164:=⟨_,Tryz.func164,af,af⟩
set_option maxRecDepth 100000 in
set_option maxHeartbeats 1000000 in
theorem Oo (w:World) (width:Int) (dom:UInt8) (di:Int) (hdi:IntKind.u8.wrap di=(dom.toNat:Int)) (pa:Option Addr) (ps:List Part) (c n:Nat) (hn:n=ps.length) (hP:Pieces w pa ps) (hlen:(flat ps).length<140737488355000) (hnb:n<9223372036854775807) (hT:Tab w) :
  Calls Tryz.prog 117 #[.int .i64 width,.int .i64 di,.slice pa n c] w fun e w'=>e= .returned (.agg (dc (ofL width dom (flat ps))).toArray)∧At w [] w':=by
 subst hn
 have hA0:=At.refl w
 have hpos:2<w.heap.size:=hT.lt
 have hfl:∀ j,(flat (ps.take j)).length≤(flat ps).length:=fun j=>by
  have h2:flat ps=flat (ps.take j)++flat (ps.drop j):=by unfold flat; rw [← List.flatMap_append,List.take_append_drop]
  rw [h2,List.length_append]; omega
 refine aQ Tryz.func117 O Tryz.ntmps117 ai (fun a hF=>?_)
 refine wp_seq_k fun K1 hK1=>wp_region_lit ?_
 refine ax O (fun K hK=>iT hF O ae rfl hA0 oL (fun b2 w1 a hb2 hF hA1=>hK _ _ ?_))
 refine aK<|hK1 _ _ ?_
 refine wp_seq_k fun K2 hK2=>wp_region_lit ?_
 refine ax O (fun K hK=>ay hF O ae MW rfl rfl ?_)
 with_reducible refine (new_any w1).mono ?_
 rintro e' w2 ⟨b3,cs0,rfl,hb3,hH0,hc2⟩
 refine ⟨_,rfl,fun a hF=>hK _ _ ?_⟩
 have hA2:At w [(b3,246,cs0),(b2,29,dc (List.replicate 32 0))] w2:=hA1.thenNew hc2 (lq hb3)
 clear hc2
 have q3:w.heap.size≤b3:=by have:=hA1.size; omega
 have l3:b2<b3:=by have:=hA1.lt (k:=0) rfl; omega
 refine vR hF<|vX O<|vE hK2<|wT fun K3 hK3=>vX O<|vX O<|vV O (bQ O QD QJ O hdi) fun a hF=>?_
 refine ax O (fun K hK=>sN hF O ae rfl hA2 dom rfl uM (fun b4 w3 a hb4 hF hA3=>hK _ _ ?_))
 have q4:w.heap.size≤b4:=by have:=hA2.size; omega
 have l4:b3<b4:=by have:=hA2.lt (k:=0) rfl; omega
 have hnr:∀ cs,∀ r∈[(b4,5,dc [dom]),(b3,246,cs),(b2,29,dc (List.replicate 32 0))],w.heap.size≤(r:Row).1:=fun _=>lS q4 (lS q3 (lq hb2))
 refine ax O (fun K hK=>ay hF O ae D8 rfl rfl ?_)
 with_reducible refine (yD w3 b3 [] cs0 hH0 (hA3.row (k:=1) rfl) (some ⟨b4,0,none⟩) [dom] 1 1 O (Bts.row hA3 (k:=0) rfl rfl) (Qw _) (fun _=>Hu ag) (by simp) (hT.at_ hA3 (H5 hpos (hnr _))) ag).mono ?_
 rintro e' w4 ⟨rfl,cs1,hH1,hc4⟩
 refine ⟨_,rfl,fun a hF=>hK _ _ ?_⟩
 have hA4:At w [(b4,5,dc [dom]),(b3,246,cs1),(b2,29,dc (List.replicate 32 0))] w4:=hA3.then1 (k:=1) rfl hc4
 clear hc4
 replace hH1:HS (dom::flat (ps.take 0)) cs1:=hH1
 refine aK<|hK3 _ _ ?_
 apply wp_seq_k; intro K4 hK4
 refine wS hF fun K5 hK5=>vX O<|vV O (aT O QZ O O)<|vX O<|vE hK5<|wBk fun a hF=>?_
 refine bG (G:=Nat) (fun i a x=>i≤ps.length∧∃ cs,Fr 30 [(18,.int .i64 (i:Int)),(0,.int .i64 width),(7,.pointer (some ⟨b3,0,none⟩)),(6,.pointer (some ⟨b2,0,none⟩)),(16,.slice pa ps.length c),(17,.int .i64 (ps.length:Int))] a∧HS (dom::flat (ps.take i)) cs∧At w [(b4,5,dc [dom]),(b3,246,cs),(b2,29,dc (List.replicate 32 0))] x) (fun i=>ps.length-i) 0 ⟨Qs _,cs1,hF.keep [18,0,7,6,16,17] rfl,hH1,hA4⟩ ?_
 clear hF
 rintro i a wr ⟨hi,cs,hF,hH,hAr⟩
 by_cases hlt:i<ps.length
 ·have hPr:=hP.fresh hAr (hnr cs)
  have hne:ps≠[]:=fun e=>by rw [e] at hlt; exact absurd hlt (Nat.not_lt_zero _)
  obtain ⟨b,o,rfl,hbl,hcells⟩:=hPr.1 hne
  obtain ⟨⟨A,cA,l⟩,hp⟩:∃ q,ps[i]? = some q:=⟨_,List.getElem?_eq_getElem hlt⟩
  have hcell:=hcells i A cA l hp
  obtain ⟨hlc,hBl⟩:=hPr.2 A cA l (List.mem_of_getElem? hp)
  have hB0:=(hP.2 A cA l (List.mem_of_getElem? hp)).2
  have hft:=qR hp
  have hfle:=DD hp
  have hfi:=hfl i
  refine wS hF fun K6 hK6=>vV O (aJ O O O O O)<|vE hK6<|wQ fun K7 hK7 a hF=>?_
  refine aG hF O (dA ag) ?_
  apply wp_skip
  refine hK7 _ _ ?_
  apply wp_seq_k; intro K8 hK8
  apply wp_block
  refine wS hF fun K9 hK9=>vV O (bV O QZ J9 O O i rfl hlt (ad2 _ _ _))<|vV O (lX O O hcell PN)<|vX O<|vE hK9 fun a hF=>?_
  refine wp_region_lit ?_
  refine vR hF<|vX O<|vX O fun a hF=>?_
  refine ax O (fun K hK=>ay hF O ae D8 rfl rfl ?_)
  with_reducible refine (yD wr b3 _ cs hH (hAr.row (k:=1) rfl) A l cA l.length rfl hBl hlc (Nb hB0 q3) (by simp only [List.length_cons]; omega) (hT.at_ hAr (H5 hpos (hnr _))) ag).mono ?_
  rintro e' w6 ⟨rfl,cs2,hH2,hc6⟩
  refine ⟨_,rfl,fun a hF=>hK _ _ ?_⟩
  have hA6:At w [(b4,5,dc [dom]),(b3,246,cs2),(b2,29,dc (List.replicate 32 0))] w6:=hAr.then1 (k:=1) rfl hc6
  clear hc6
  replace hH2:HS (dom::flat (ps.take (i+1))) cs2:=by rw [hft]; exact hH2
  refine aK<|hK8 _ _ ?_
  refine wp_region_lit ?_
  refine vR hF<|vV O (bH O O O (Qu _ ag))<|vX O fun a hF=>?_
  refine aK ?_
  exact ⟨i+1,ag,ag,cs2,hF.keep [18,0,7,6,16,17] rfl,hH2,hA6⟩
 ·obtain rfl:i=ps.length:=by omega
  rw [zN] at hH
  refine wS hF fun K10 hK10=>vV O (aJ O O O O O)<|vE hK10<|wQ fun K11 hK11 a hF=>?_
  refine au hF O (dm ag) ?_
  apply wp_exit
  refine hK4 _ _ ?_
  refine wS hF fun K12 hK12=>vX O fun a hF=>?_
  refine ax O (fun K hK=>ay hF O ae MV rfl rfl ?_)
  with_reducible refine (sum_any wr b3 _ cs hH (hAr.row (k:=1) rfl) (by simp only [List.length_cons]; omega) (hT.at_ hAr (H5 hpos (hnr _))) ag).mono ?_
  rintro e' w7 ⟨rfl,hc7⟩
  refine ⟨_,rfl,fun a hF=>hK _ _ ?_⟩
  have hA7:At w [(b4,5,dc [dom]),(b3,246,cs),(b2,29,dc (List.replicate 32 0))] w7:=hAr.then0 hc7
  clear hc7
  refine vR hF<|vX O fun a hF=>?_
  refine ax O (fun K hK=>ay hF O ae MI rfl rfl ?_)
  with_reducible refine (LQ _ width w7 (fF _)).mono ?_
  rintro e' w8 ⟨rfl,hc8⟩
  refine ⟨_,rfl,fun a hF=>hK _ _ ?_⟩
  have hA8:At w [(b4,5,dc [dom]),(b3,246,cs),(b2,29,dc (List.replicate 32 0))] w8:=hA7.then0 hc8
  clear hc8
  refine ax O (fun K hK=>jk hF O O hA8 O O 2 O (J7 (dJ _ _ (fF _))) (iR _) J8 (fun w9 hA9=>hK _ _ ?_))
  refine aK<|hK12 _ _ ?_
  apply wp_ret
  refine nT hF Tryz.results117 hA9 O 2 O (pg (dJ _ _ (fF _))) ?_
  exact ⟨rfl,hA9.clear (lS q4 (lS q3 (lq hb2)))⟩
end Go.Proofs.YtepbmdlgdaedpaaGreatDoor
namespace Go.Proofs.YtepbmdlgdaedpaaGreatDoor
open Go.RowKit Go.Dk
theorem Wr.drew {w0:World} {wb:Nat} {R X:List Row} {v:Value} {l:List UInt8} {w:World} (h:Wr w0 wb R X v l w):Wr w0 wb R X v l w.drew:=⟨h.1,h.2.drew⟩
end Go.Proofs.YtepbmdlgdaedpaaGreatDoor
namespace Go.Proofs.YtepbmdlgdaedpaaGreatDoor
open Go.RowKit Go.Dk
def yz (dig tx:Nat→List UInt8) (n:Nat):Prop:=∀ a b,a<n→b<n→dig a=dig b→tx a=tx b
def Nk (dig tx:Nat→List UInt8) (i j:Nat):Prop:=i<j∧dig i=dig j∧tx i≠tx j∧yz dig tx j∧∀ a,a<i→dig a≠dig j
structure Firsts (dig tx:Nat→List UInt8) (M:List (List UInt8 × Nat)) (j:Nat):Prop where
  idx:∀ p∈M,p.2<j∧p.1=dig p.2∧∀ a,a<p.2→dig a≠p.1
  cov:∀ a,a<j→∃ p∈M,p.1=dig a∧tx p.2=tx a
section
variable {dig tx:Nat→List UInt8} {M:List (List UInt8 × Nat)} {j:Nat}
theorem Firsts.nil:Firsts dig tx [] 0:=⟨(fun _ h=>by cases h),fun a h=>absurd h (Nat.not_lt_zero a)⟩
theorem Firsts.none (h:Firsts dig tx M j):yz dig tx j:=by
  intro a b ha hb hab
  obtain ⟨p,hp,p1,p2⟩:=h.cov a ha
  obtain ⟨q,hq,q1,q2⟩:=h.cov b hb
  have hpq:p.1=q.1:=by rw [p1,q1,hab]
  obtain ⟨_,e1,m1⟩:=h.idx p hp
  obtain ⟨_,e2,m2⟩:=h.idx q hq
  have:p.2=q.2:=by
    rcases Nat.lt_trichotomy p.2 q.2 with h1 | h1 | h1
    · exact absurd (e1.symm.trans hpq) (m2 _ h1)
    · exact h1
    · exact absurd (e2.symm.trans hpq.symm) (m1 _ h1)
  rw [← p2,← q2,this]
theorem Firsts.push (h:Firsts dig tx M j) (hno:∀ p∈M,p.1≠dig j):Firsts dig tx (M++[(dig j,j)]) (j+1):=by
  refine ⟨fun p hp=>?_,fun a ha=>?_⟩
  · rcases List.mem_append.1 hp with hp | hp
    · obtain ⟨h1,h2,h3⟩:=h.idx p hp; exact ⟨ ag,h2,h3⟩
    · simp only [List.mem_cons,List.not_mem_nil,or_false] at hp
      subst hp
      refine ⟨Nat.lt_succ_self _,rfl,fun a ha he=>?_⟩
      obtain ⟨q,hq,q1,_⟩:=h.cov a ha
      exact hno q hq (q1.trans he)
  · rcases Nat.lt_or_ge a j with h1 | h1
    · obtain ⟨p,hp,e⟩:=h.cov a h1; exact ⟨p,QO _ hp,e⟩
    · obtain rfl:a=j:=by omega
      exact ⟨_,QN _ (Qx ..),rfl,rfl⟩
end
end Go.Proofs.YtepbmdlgdaedpaaGreatDoor
namespace Go.Proofs.YtepbmdlgdaedpaaGreatDoor
open Go.RowKit Go.Dk
set_option linter.unusedVariables false
section
variable {w d c h:Int} {X Y:List UInt8} {p q:Value}
end
theorem Own.drawn {w0:World} {X:List Row} {v:Value} {n:Nat} {W:List Value} (h:Own w0 5 1 X v n W):Own w0 5 1 X v n W:=h
end Go.Proofs.YtepbmdlgdaedpaaGreatDoor
