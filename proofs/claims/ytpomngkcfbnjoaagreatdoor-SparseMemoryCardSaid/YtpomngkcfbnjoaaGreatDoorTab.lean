/- Texts that belong together, one behind the other. -/
import Derived.Test.YtpomngkcfbnjoaaGreatDoorTwo
import Derived.Lib.ConvBytes
import Derived.Laws.Cover3
import Derived.Test.YtpomngkcfbnjoaaGreatDoorLawSplits
import Derived.Test.YtpomngkcfbnjoaaGreatDoorOctetW
namespace Go.Dk
open Go Go.RowKit
section
variable {P:Program} {Q:Exit→Act→World→Prop} {w w0:World} {n:Nat} {F:List (Nat × Value)} {a:Act}
variable {o:Oper} {d:Nat} {K:Act→World→Prop} {L:List Row} {t e:TypeId} {x y z:Operand} {u1 u2 u3:Value}
theorem lw (w:World) (t:TypeId) (A:Option Addr) (n1 c1:Nat) (hu:P.underlying t=some (.slice e)):(binOp .eql t (.slice A n1 c1) (.slice none 0 0)).run P w= .ok (.bool A.isNone) w:=by
  have h:=run_equal_slice_nil (P:=P) w t e A n1 c1 hu
  simp [binOp,h,Result.andThen]
theorem QQ (hF:Fr n F a) (hd:o.dst=some d) (hlt:d<n) (ho:o.op= .buildSlice t 1 #[(0,x)]) (hA:At w0 L w) (hx:ev F x=some u1)
    (hr:∀ w:World,(Instr.buildSlice t 1 #[(0,u1)]).run P w= .ok (.slice (some ⟨w.heap.size,0,none⟩) 1 1) (w.alloc (.cells #[u1] e)))
    (h:∀ g w' a',w.heap.size≤g→Fr n ((d,.slice (some ⟨g,0,none⟩) 1 1)::F) a'→At w0 ((g,e,[u1])::L) w'→K a' w'):o.wp P a w K Q :=
  yL ho hA (by simpa [hF.ev hx] using hr w) (fun g w' hg hw=>by rw [hd]; exact h g w' _ hg (hF.put hlt) hw)
theorem Jv (hF:Fr n F a) (hd:o.dst=some d) (hlt:d<n) (ho:o.op= .buildSlice t 2 #[(0,x),(1,y)]) (hA:At w0 L w) (hx:ev F x=some u1) (hy:ev F y=some u2)
    (hr:∀ w:World,(Instr.buildSlice t 2 #[(0,u1),(1,u2)]).run P w= .ok (.slice (some ⟨w.heap.size,0,none⟩) 2 2) (w.alloc (.cells #[u1,u2] e)))
    (h:∀ g w' a',w.heap.size≤g→Fr n ((d,.slice (some ⟨g,0,none⟩) 2 2)::F) a'→At w0 ((g,e,[u1,u2])::L) w'→K a' w'):o.wp P a w K Q :=
  yL ho hA (by simpa [hF.ev hx,hF.ev hy] using hr w) (fun g w' hg hw=>by rw [hd]; exact h g w' _ hg (hF.put hlt) hw)
theorem Ju (hF:Fr n F a) (hd:o.dst=some d) (hlt:d<n) (ho:o.op= .buildSlice t 3 #[(0,x),(1,y),(2,z)]) (hA:At w0 L w) (hx:ev F x=some u1) (hy:ev F y=some u2) (hz:ev F z=some u3)
    (hr:∀ w:World,(Instr.buildSlice t 3 #[(0,u1),(1,u2),(2,u3)]).run P w= .ok (.slice (some ⟨w.heap.size,0,none⟩) 3 3) (w.alloc (.cells #[u1,u2,u3] e)))
    (h:∀ g w' a',w.heap.size≤g→Fr n ((d,.slice (some ⟨g,0,none⟩) 3 3)::F) a'→At w0 ((g,e,[u1,u2,u3])::L) w'→K a' w'):o.wp P a w K Q :=
  yL ho hA (by simpa [hF.ev hx,hF.ev hy,hF.ev hz] using hr w) (fun g w' hg hw=>by rw [hd]; exact h g w' _ hg (hF.put hlt) hw)
theorem Jq {t':TypeId} {n1 c1:Nat} (ho:o.op= .binOp .eql t x y t') (hu:P.underlying t=some (.slice e)) (hx:ev F x=some (.slice none n1 c1)) (hy:ev F y=some (.slice none 0 0)):Yd P n F o w (.bool true):=fun a hF=>by
  unfold execOp
  simp only [ho,hF.ev hx,hF.ev hy,Sem.run_bind]
  have h1:(eqGuard .eql t x y (.slice none n1 c1) (.slice none 0 0)).run P w= .ok () w:=rfl
  rw [h1]
  simp only [Result.andThen_ok]
  rw [lw w t none n1 c1 hu]
  rfl
theorem Be {t':TypeId} {ad:Addr} {n1 c1:Nat} (ho:o.op= .binOp .eql t x y t') (hu:P.underlying t=some (.slice e)) (hx:ev F x=some (.slice (some ad) n1 c1)) (hy:ev F y=some (.slice none 0 0)):Yd P n F o w (.bool false):=fun a hF=>by
  unfold execOp
  simp only [ho,hF.ev hx,hF.ev hy,Sem.run_bind]
  have h1:(eqGuard .eql t x y (.slice (some ad) n1 c1) (.slice none 0 0)).run P w= .ok () w:=rfl
  rw [h1]
  simp only [Result.andThen_ok]
  rw [lw w t (some ad) n1 c1 hu]
  rfl
end
end Go.Dk
namespace Go.Proofs.YtpomngkcfbnjoaaGreatDoor
open Go.RowKit Go.Dk
theorem Pieces.fresh {w0 w:World} {L:List Row} {pa:Option Addr} {ps:List Part} (h:Pieces w0 pa ps) (hA:At w0 L w) (hn:∀ r∈L,w0.heap.size≤(r:Row).1):Pieces w pa ps:=by
 refine ⟨fun hne=>?_,fun A c l hm=>⟨(h.2 A c l hm).1,(h.2 A c l hm).2.fresh hA hn⟩⟩
 obtain ⟨b,o,he,hb,hc⟩:=h.1 hne
 refine ⟨b,o,he,Nat.lt_of_lt_of_le hb hA.size,fun i A c l hi=>?_⟩
 rw [hA.old hb (fun hm=>by
  obtain ⟨r,hr,e⟩:=List.mem_map.1 hm
  have h1:=hn r hr
  have h2:r.1=b:=e
  omega)]
 exact hc i A c l hi
theorem Pieces.nil (w:World):Pieces w none []:=⟨fun h=>absurd rfl h,fun _ _ _ h=>by cases h⟩
theorem Pieces.row {w0 w:World} {L:List Row} {g k:Nat} {t:TypeId} {ps:List Part} (hA:At w0 L w) (hk:L[k]? = some (g,t,ps.map fun p=>Value.slice p.1 p.2.2.length p.2.1)) (hp:∀ A c l,(A,c,l)∈ps→l.length≤c∧Bts w A l):Pieces w (some ⟨g,0,none⟩) ps:=by
 refine ⟨fun _=>⟨g,0,rfl,hA.lt hk,fun i A c l hi=>?_⟩,hp⟩
 rw [Nat.zero_add,hA.cell hk,List.getElem?_map,hi]
 rfl
theorem Bo (A B:Option Addr) (n c m d:Nat) (w:World):(Instr.buildSlice 41 2 #[(0,.slice A n c),(1,.slice B m d)]).run Tryz.prog w= .ok (.slice (some ⟨w.heap.size,0,none⟩) 2 2) (w.alloc (.cells #[.slice A n c,.slice B m d] 70)):=af
theorem Bl (A B C:Option Addr) (n c m d k e:Nat) (w:World):(Instr.buildSlice 41 3 #[(0,.slice A n c),(1,.slice B m d),(2,.slice C k e)]).run Tryz.prog w= .ok (.slice (some ⟨w.heap.size,0,none⟩) 3 3) (w.alloc (.cells #[.slice A n c,.slice B m d,.slice C k e] 70)):=af
def ofL (width:Int) (dom:UInt8) (l:List UInt8):List UInt8:=gZ (sha (dom::l)) width
theorem ja (width:Int) (dom:UInt8) (l:List UInt8):(ofL width dom l).length=32:=dJ _ _ (dH _)
theorem flat_one (A:Option Addr) (c:Nat) (l:List UInt8):flat [(A,c,l)]=l:=by simp [flat]
theorem sK (A B:Option Addr) (c d:Nat) (l m:List UInt8):flat [(A,c,l),(B,d,m)]=l++m:=by simp [flat]
theorem oJ (A B C:Option Addr) (c d e:Nat) (l m k:List UInt8):flat [(A,c,l),(B,d,m),(C,e,k)]=l++m++k:=by simp [flat]
theorem jK {D:List UInt8} (h:D.length=32):isRow Tryz.prog 25 (dc D).length=true:=by rw [aj,h]; exact Cb
theorem yx {D:List UInt8} (h:D.length=32):(dc D).length=(dc (List.replicate 32 (0:UInt8))).length:=by rw [aj,h]; rfl
theorem yz:(Tryz.prog.info? 25).map (·.size)=some (dc (List.replicate 32 (0:UInt8))).length:=by rw [oV]; rfl
theorem tC {D:List UInt8} (_h:D.length=32) {w0 w:World} {L:List Row} {g k:Nat} {t:TypeId} (hA:At w0 L w) (hk:L[k]? = some (g,t,dc D)):Bts w (some ⟨g,0,none⟩) D:=Bts.row hA hk (by rw [List.drop_zero]; exact TJ (by rw [aj]; exact TG _))
theorem PZ:aG Tryz.prog 86:=⟨_,Tryz.func86,af,af⟩
theorem PX:aG Tryz.prog 69:=⟨_,Tryz.func69,af,af⟩
set_option maxRecDepth 100000 in
set_option maxHeartbeats 1000000 in
theorem E5 (w:World) (width:Int) (dom:UInt8) (di:Int) (hdi:IntKind.u8.wrap di=(dom.toNat:Int)) (pa:Option Addr) (ps:List Part) (c n:Nat) (hn:n=ps.length) (hP:Pieces w pa ps) (hlen:(flat ps).length<140737488355000) (hnb:n<9223372036854775807) (hT:Tab w) :
  Calls Tryz.prog 86 #[.int .i64 width,.int .i64 di,.slice pa n c] w fun e w'=>e= .returned (.agg (dc (ofL width dom (flat ps))).toArray)∧At w [] w':=by
 subst hn
 have hA0:=At.refl w
 have hpos:0<w.heap.size:=hT.lt
 have hfl:∀ j,(flat (ps.take j)).length≤(flat ps).length:=fun j=>by
  have h2:flat ps=flat (ps.take j)++flat (ps.drop j):=by unfold flat; rw [← List.flatMap_append,List.take_append_drop]
  rw [h2,List.length_append]; omega
 refine aJ Tryz.func86 O Tryz.ntmps86 ai (fun a hF=>?_)
 refine wp_seq_k fun K1 hK1=>wp_region_lit ?_
 refine au O (fun K hK=>fZ hF O ae rfl hA0 jE (fun b2 w1 a hb2 hF hA1=>hK _ _ ?_))
 refine az<|hK1 _ _ ?_
 refine wp_seq_k fun K2 hK2=>wp_region_lit ?_
 refine au O (fun K hK=>ax hF O ae Qh rfl rfl ?_)
 with_reducible refine (new_any w1).mono ?_
 rintro e' w2 ⟨b3,cs0,rfl,hb3,hH0,hc2⟩
 refine ⟨_,rfl,fun a hF=>hK _ _ ?_⟩
 have hA2:At w [(b3,158,cs0),(b2,25,dc (List.replicate 32 0))] w2:=hA1.thenNew hc2 (eQ hb3)
 clear hc2
 have q3:w.heap.size≤b3:=by have:=hA1.size; omega
 have l3:b2<b3:=by have:=hA1.lt (k:=0) rfl; omega
 refine vR hF<|vX O<|vE hK2<|wT fun K3 hK3=>vX O<|vX O<|vV O (fP O TP TA O hdi) fun a hF=>?_
 refine au O (fun K hK=>qX hF O ae rfl hA2 dom rfl x8 (fun b4 w3 a hb4 hF hA3=>hK _ _ ?_))
 have q4:w.heap.size≤b4:=by have:=hA2.size; omega
 have l4:b3<b4:=by have:=hA2.lt (k:=0) rfl; omega
 have hnr:∀ cs,∀ r∈[(b4,5,dc [dom]),(b3,158,cs),(b2,25,dc (List.replicate 32 0))],w.heap.size≤(r:Row).1:=fun _=>cZ q4 (cZ q3 (eQ hb2))
 refine au O (fun K hK=>ax hF O ae Qg rfl rfl ?_)
 with_reducible refine (Bh w3 b3 [] cs0 hH0 (hA3.row (k:=1) rfl) (some ⟨b4,0,none⟩) [dom] 1 1 O (Bts.row hA3 (k:=0) rfl rfl) (TG _) (fun _=>LW ag) (by simp) (hT.at_ hA3 (rU hpos (hnr _))) ag).mono ?_
 rintro e' w4 ⟨rfl,cs1,hH1,hc4⟩
 refine ⟨_,rfl,fun a hF=>hK _ _ ?_⟩
 have hA4:At w [(b4,5,dc [dom]),(b3,158,cs1),(b2,25,dc (List.replicate 32 0))] w4:=hA3.then1 (k:=1) rfl hc4
 clear hc4
 replace hH1:HS (dom::flat (ps.take 0)) cs1:=hH1
 refine az<|hK3 _ _ ?_
 apply wp_seq_k; intro K4 hK4
 refine wS hF fun K5 hK5=>vX O<|vV O (aY O TL O O)<|vX O<|vE hK5<|wBk fun a hF=>?_
 refine bQ (G:=Nat) (fun i a x=>i≤ps.length∧∃ cs,Fr 30 [(18,.int .i64 (i:Int)),(0,.int .i64 width),(7,.pointer (some ⟨b3,0,none⟩)),(6,.pointer (some ⟨b2,0,none⟩)),(16,.slice pa ps.length c),(17,.int .i64 (ps.length:Int))] a∧HS (dom::flat (ps.take i)) cs∧At w [(b4,5,dc [dom]),(b3,158,cs),(b2,25,dc (List.replicate 32 0))] x) (fun i=>ps.length-i) 0 ⟨Tv _,cs1,hF.keep [18,0,7,6,16,17] rfl,hH1,hA4⟩ ?_
 clear hF
 rintro i a wr ⟨hi,cs,hF,hH,hAr⟩
 by_cases hlt:i<ps.length
 ·have hPr:=hP.fresh hAr (hnr cs)
  have hne:ps≠[]:=fun e=>by rw [e] at hlt; exact absurd hlt (Nat.not_lt_zero _)
  obtain ⟨b,o,rfl,hbl,hcells⟩:=hPr.1 hne
  obtain ⟨⟨A,cA,l⟩,hp⟩:∃ q,ps[i]? = some q:=⟨_,List.getElem?_eq_getElem hlt⟩
  have hcell:=hcells i A cA l hp
  obtain ⟨hlc,hBl⟩:=hPr.2 A cA l (List.mem_of_getElem? hp)
  have hB0:=(hP.2 A cA l (List.mem_of_getElem? hp)).2
  have hft:=um hp
  have hfle:=GI hp
  have hfi:=hfl i
  refine wS hF fun K6 hK6=>vV O (aH O O O O O)<|vE hK6<|wQ fun K7 hK7 a hF=>?_
  refine aZ hF O (dB ag) ?_
  apply wp_skip
  refine hK7 _ _ ?_
  apply wp_seq_k; intro K8 hK8
  apply wp_block
  refine wS hF fun K9 hK9=>vV O (bi O TL uV O O i rfl hlt (ad2 _ _ _))<|vV O (zG O O hcell SV)<|vX O<|vE hK9 fun a hF=>?_
  refine wp_region_lit ?_
  refine vR hF<|vX O<|vX O fun a hF=>?_
  refine au O (fun K hK=>ax hF O ae Qg rfl rfl ?_)
  with_reducible refine (Bh wr b3 _ cs hH (hAr.row (k:=1) rfl) A l cA l.length rfl hBl hlc (G8 hB0 q3) (by simp only [List.length_cons]; omega) (hT.at_ hAr (rU hpos (hnr _))) ag).mono ?_
  rintro e' w6 ⟨rfl,cs2,hH2,hc6⟩
  refine ⟨_,rfl,fun a hF=>hK _ _ ?_⟩
  have hA6:At w [(b4,5,dc [dom]),(b3,158,cs2),(b2,25,dc (List.replicate 32 0))] w6:=hAr.then1 (k:=1) rfl hc6
  clear hc6
  replace hH2:HS (dom::flat (ps.take (i+1))) cs2:=by rw [hft]; exact hH2
  refine az<|hK8 _ _ ?_
  refine wp_region_lit ?_
  refine vR hF<|vV O (bH O O O (TB _ ag))<|vX O fun a hF=>?_
  refine az ?_
  exact ⟨i+1,ag,ag,cs2,hF.keep [18,0,7,6,16,17] rfl,hH2,hA6⟩
 ·obtain rfl:i=ps.length:=by omega
  rw [Du] at hH
  refine wS hF fun K10 hK10=>vV O (aH O O O O O)<|vE hK10<|wQ fun K11 hK11 a hF=>?_
  refine aS hF O (dD ag) ?_
  apply wp_exit
  refine hK4 _ _ ?_
  refine wS hF fun K12 hK12=>vX O fun a hF=>?_
  refine au O (fun K hK=>ax hF O ae Qd rfl rfl ?_)
  with_reducible refine (sum_any wr b3 _ cs hH (hAr.row (k:=1) rfl) (by simp only [List.length_cons]; omega) (hT.at_ hAr (rU hpos (hnr _))) ag).mono ?_
  rintro e' w7 ⟨rfl,hc7⟩
  refine ⟨_,rfl,fun a hF=>hK _ _ ?_⟩
  have hA7:At w [(b4,5,dc [dom]),(b3,158,cs),(b2,25,dc (List.replicate 32 0))] w7:=hAr.then0 hc7
  clear hc7
  refine vR hF<|vX O fun a hF=>?_
  refine au O (fun K hK=>ax hF O ae PX rfl rfl ?_)
  with_reducible refine (GR _ width w7 (dH _)).mono ?_
  rintro e' w8 ⟨rfl,hc8⟩
  refine ⟨_,rfl,fun a hF=>hK _ _ ?_⟩
  have hA8:At w [(b4,5,dc [dom]),(b3,158,cs),(b2,25,dc (List.replicate 32 0))] w8:=hA7.then0 hc8
  clear hc8
  refine au O (fun K hK=>eu hF O O hA8 O O 2 O (yx (dJ _ _ (dH _))) (bz _) yz (fun w9 hA9=>hK _ _ ?_))
  refine az<|hK12 _ _ ?_
  apply wp_ret
  refine jq hF Tryz.results86 hA9 O 2 O (jK (dJ _ _ (dH _))) ?_
  exact ⟨rfl,hA9.clear (cZ q4 (cZ q3 (eQ hb2)))⟩
set_option maxRecDepth 100000 in
set_option maxHeartbeats 1000000 in
theorem x9 (w:World) (width:Int) (X Y:List UInt8) (hX:X.length=32) (hY:Y.length=32) (hT:Tab w) :
  Calls Tryz.prog 83 #[.int .i64 width,.agg (dc X).toArray,.agg (dc Y).toArray] w fun e w'=>e= .returned (.agg (dc (ofL width 4 (X++Y))).toArray)∧At w [] w':=by
 have hA0:=At.refl w
 have hpos:0<w.heap.size:=hT.lt
 refine aJ Tryz.func83 O Tryz.ntmps83 ai (fun a hF=>?_)
 refine wp_seq_k fun K1 hK1=>wp_region_lit ?_
 refine au O (fun K hK=>lT (cs:=dc X) hF O ae rfl hA0 O (fun b2 w1 a hb2 hF hA1=>hK _ _ ?_))
 refine au O (fun K hK=>lT (cs:=dc Y) hF O ae rfl hA1 O (fun b3 w2 a hb3 hF hA2=>hK _ _ ?_))
 have q3:w.heap.size≤b3:=by have:=hA1.size; omega
 refine au O (fun K hK=>fZ hF O ae rfl hA2 jE (fun b4 w3 a hb4 hF hA3=>hK _ _ ?_))
 replace hA3:At w [(b4,25,dc (List.replicate 32 0)),(b3,25,dc Y),(b2,25,dc X)] w3:=hA3
 refine az<|hK1 _ _ ?_
 apply wp_seq_k; intro K2 hK2
 refine ak 4 [3,4,5] [0,1,2,3,4,5] (fun _=>True) af af (trivial) ?_
 refine pR hF<|pX O O<|pW O O (fun _=>dG O Tz kX rfl (.none 0) (.none 32) ag ag dU)<|pW O O (fun _=>dG O Tz kX rfl (.none 0) (.none 32) ag ag dU) fun a hF=>?_
 refine bM O O O (fun K hK=>Jv hF O ae rfl hA3.drew rfl rfl (Bo _ _ _ _ _ _) (fun b5 w4 a hb5 hF hA4=>hK _ _ (fun _=>trivial) ?_))
 have q4:w.heap.size≤b4:=by have:=hA2.size; omega
 have hnr:∀ r∈[((b5,70,[.slice (some ⟨b2,0,none⟩) 32 32,.slice (some ⟨b3,0,none⟩) 32 32]):Row),(b4,25,dc (List.replicate 32 0)),(b3,25,dc Y),(b2,25,dc X)],w.heap.size≤r.1:=cZ (by have:=hA3.drew.size; omega) (cZ q4 (cZ q3 (eQ hb2)))
 have hP:Pieces w4 (some ⟨b5,0,none⟩) [(some ⟨b2,0,none⟩,32,X),(some ⟨b3,0,none⟩,32,Y)]:=Pieces.row hA4 (k:=0) (by rw [List.map_cons,List.map_cons,hX,hY]; rfl) (fun A' c' l' h=>by
  rcases List.mem_cons.1 h with h | h
  ·obtain ⟨rfl,rfl,rfl⟩:A'=some ⟨b2,0,none⟩∧c'=32∧l'=X:=by simpa using h
   exact ⟨ ag,tC hX hA4 (k:=3) rfl⟩
  ·obtain ⟨rfl,rfl,rfl⟩:A'=some ⟨b3,0,none⟩∧c'=32∧l'=Y:=by simpa using h
   exact ⟨ ag,tC hY hA4 (k:=2) rfl⟩)
 refine bM O O O (fun K hK=>ax hF O ae PZ rfl rfl ?_)
 with_reducible refine (E5 w4 width 4 4 O (some ⟨b5,0,none⟩) _ 2 2 O hP (by rw [sK,List.length_append]; omega) ae (hT.at_ hA4 (rU hpos hnr))).mono ?_
 rintro e' w5 ⟨rfl,hc5⟩
 refine ⟨_,rfl,fun a hF=>hK _ _ (fun h=>absurd h ae) ?_⟩
 have hA5:=hA4.then0 hc5
 clear hc5
 rw [sK] at hF
 refine bM O O O (fun K hK=>eu hF O O hA5 O O 1 O (yx (ja _ _ _)) (bz _) yz (fun w6 hA6=>hK _ _ (fun h=>absurd h ae) ?_))
 refine aB ?_
 refine hK2 _ _ ?_
 apply wp_ret
 refine jq hF Tryz.results83 hA6 O 1 O (jK (ja _ _ _)) ?_
 exact ⟨rfl,hA6.clear (cZ (by have:=hA3.drew.size; omega) (cZ q4 (cZ q3 (eQ hb2))))⟩
end Go.Proofs.YtpomngkcfbnjoaaGreatDoor
