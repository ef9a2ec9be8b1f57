/- Texts that belong together, one behind the other. -/
import Derived.Test.YtepbmdlgdaedpaaGreatDoorTab4
import Derived.Test.YtepbmdlgdaedpaaGreatDoorEv
import Derived.Test.YtepbmdlgdaedpaaGreatDoorProg
import Derived.Test.YtepbmdlgdaedpaaGreatDoorHs
import Derived.Test.YtepbmdlgdaedpaaGreatDoorLawSplits
import Derived.Test.YtepbmdlgdaedpaaGreatDoorSum
import Derived.Test.YtepbmdlgdaedpaaGreatDoorRefSum
import Derived.Test.YtepbmdlgdaedpaaGreatDoorDigest
namespace Go.Proofs.YtepbmdlgdaedpaaGreatDoor
open Go.RowKit Go.Dk
theorem IB {D:List UInt8} (hD:D.length=32) {k i:Nat} (hk:k≤i) (hi:i<32):(dc (D.take k++List.replicate (i-k) 0++D.drop i)).set i (.int .u8 0)=dc (D.take k++List.replicate (i+1-k) 0++D.drop (i+1)):=by
 have hl:(D.take k++List.replicate (i-k) (0:UInt8)).length=i:=by simp [hD]; omega
 rw [List.drop_eq_getElem_cons (show i<D.length by omega),bV,List.set_append,if_neg (by rw [aI,hl]; omega),aI,hl,Nat.sub_self]
 rw [show i+1-k=(i-k)+1 by omega,List.replicate_succ',bV,bV,bV,bV]
 simp [dc]
 rw [List.drop_eq_getElem_cons (by simp; omega)]
 rfl
theorem Lj {D:List UInt8} (hD:D.length=32) (k:Nat):D.take k++List.replicate (k-k) 0++D.drop k=D:=by simp
theorem Md:aP Tryz.prog 167:=⟨_,Tryz.func167,af,af⟩
theorem LW:aP Tryz.prog 168:=⟨_,Tryz.func168,af,af⟩
theorem LQ:aP Tryz.prog 166:=⟨_,Tryz.func166,af,af⟩
set_option maxRecDepth 100000 in
set_option maxHeartbeats 1000000 in
theorem Gy (D:List UInt8) (m:Int) (w:World) (hD:D.length=32) :
  Calls Tryz.prog 166 #[.agg (dc D).toArray,.int .i64 m] w fun e w'=>e= .returned (.agg (dc (kN D m)).toArray)∧At w [] w':=by
 have hA0:=At.refl w
 obtain ⟨z,hz⟩:∃ z:Int,z=max m 1:=⟨_,rfl⟩
 refine aQ Tryz.func166 O Tryz.ntmps166 ai (fun a hF=>?_)
 refine wp_seq_k fun K1 hK1=>wp_region_lit ?_
 refine az O (fun K hK=>FX (cs:=dc D) hF O ae rfl hA0 O (fun b2 w1 a hb2 hF hA1=>hK _ _ ?_))
 refine az O (fun K hK=>iI hF O ae rfl hA1 nU (fun b4 w2 a hb4 hF hA2=>hK _ _ ?_))
 replace hA2:At w [(b4,29,dc (List.replicate 32 0)),(b2,29,dc D)] w2:=hA2
 refine aG<|hK1 _ _ ?_
 apply wp_seq_k; intro K2 hK2
 refine wS hF fun K3 hK3=>vX O<|vV O (aB O O O O O)<|vE hK3 fun a hF=>?_
 have meet:∀ (a:Act) (x:World),Fr 16 [(1,.int .i64 z),(2,.pointer (some ⟨b2,0,none⟩)),(4,.pointer (some ⟨b4,0,none⟩))] a→At w [(b4,29,dc (List.replicate 32 0)),(b2,29,dc D)] x→K2 a x:=by
  clear hF
  intro a w2 hF hA2
  refine hK2 _ _ ?_
  apply wp_seq_k; intro K4 hK4
  refine wS hF fun K5 hK5=>vX O<|vX O<|vE hK5<|wBk fun a hF=>?_
  by_cases hbig:32≤z
  ·have hfin:kN D m=D:=by
    have hk:kept m=32:=by unfold kept; omega
    rw [kN,hk,P8 ag]
    simp
   refine bH (G:=Unit) (fun _ a x=>Fr 16 [(5,.int .i64 z),(2,.pointer (some ⟨b2,0,none⟩)),(4,.pointer (some ⟨b4,0,none⟩))] a∧At w [(b4,29,dc (List.replicate 32 0)),(b2,29,dc D)] x) (fun _=>0) () ⟨hF.keep [5,2,4] rfl,hA2⟩ ?_
   clear hF hA2
   rintro _ a wr ⟨hF,hAr⟩
   apply wp_seq_k; intro K6 hK6
   refine wS hF fun K7 hK7=>vX O<|vV O (aB O O O O O)<|vE hK7 fun a hF=>?_
   refine au hF O (dA hbig) ?_
   apply wp_exit
   refine hK4 _ _ ?_
   refine wS hF fun K8 hK8=>vV O (kY O hAr O 1 O CP (by show 0+32≤(dc D).length; rw [aI,← hfin,dE _ _ hD]; decide) (new:=dc (kN D m)) (by rw [List.drop_zero,hfin]; exact P8 (by rw [aI,← hfin,dE _ _ hD]; exact P5 _))) fun a hF=>?_
   refine az O (fun K hK=>iZ hF O O hAr O O 0 O (JM (dE _ _ hD)) (iw _) JO (fun w5 hA5=>hK _ _ ?_))
   refine aG<|hK8 _ _ ?_
   apply wp_ret
   refine ni hF Tryz.results166 hA5 O 0 O (oI (dE _ _ hD)) ?_
   exact ⟨rfl,hA5.clear (lF (by have:=hA1.size; omega) (kS hb2))⟩
  ·obtain ⟨k,hkz⟩:∃ k:Nat,z=(k:Int):=⟨z.toNat,ag⟩
   subst hkz
   have hk32:k<32:=by omega
   have hkk:kept m=k:=by unfold kept; omega
   refine bH (G:=Nat) (fun i a x=>k≤i∧i≤32∧Fr 16 [(5,.int .i64 (i:Int)),(2,.pointer (some ⟨b2,0,none⟩)),(4,.pointer (some ⟨b4,0,none⟩))] a∧At w [(b4,29,dc (List.replicate 32 0)),(b2,29,dc (D.take k++List.replicate (i-k) 0++D.drop i))] x) (fun i=>32-i) k ⟨P5 _,ag,hF.keep [5,2,4] rfl,by rw [Lj hD]; exact hA2⟩ ?_
   clear hF
   rintro i a wr ⟨hki,hi32,hF,hAr⟩
   by_cases hi:i<32
   ·apply wp_seq_k; intro K9 hK9
    refine wS hF fun K10 hK10=>vX O<|vV O (aB O O O O O)<|vE hK10 fun a hF=>?_
    refine aF hF O (dB ag) ?_
    apply wp_skip
    refine hK9 _ _ ?_
    apply wp_seq_k; intro K11 hK11
    apply wp_block
    refine wp_region_lit ?_
    refine vR hF<|vX O<|vV O (bT O PV lG rfl rfl i rfl ag (ad1 _ _) (rfl:(none:Option Nat)=none)) fun a hF=>?_
    refine az O (fun K hK=>dI hF O O hAr O O 1 O (by rw [aI]; simp [hD]; omega) rfl lG (fun w3 hA3=>hK _ _ ?_))
    replace hA3:At w [(b4,29,dc (List.replicate 32 0)),(b2,29,dc (D.take k++List.replicate (i+1-k) 0++D.drop (i+1)))] w3:=by have h:=hA3; simp only [List.set_cons_succ,List.set_cons_zero] at h; rw [IB hD hki hi] at h; exact h
    refine aG<|hK11 _ _ ?_
    refine wp_region_lit ?_
    refine vR hF<|vX O<|vV O (bn O O O (show IntKind.i64.wrap ((i:Int)+1)=((i+1:Nat):Int) by rw [PX _ ag]; omega)) fun a hF=>?_
    refine vR hF<|vX O fun a hF=>?_
    refine aG ?_
    exact ⟨i+1,ag,ag,ag,hF.keep [5,2,4] rfl,hA3⟩
   ·obtain rfl:i=32:=by omega
    have hfin:kN D m=D.take k++List.replicate (32-k) 0++D.drop 32:=by
     rw [kN,hkk,List.drop_eq_nil_iff.2 ag,List.append_nil]
    apply wp_seq_k; intro K12 hK12
    refine wS hF fun K13 hK13=>vX O<|vV O (aB O O O O O)<|vE hK13 fun a hF=>?_
    refine au hF O (dA ag) ?_
    apply wp_exit
    refine hK4 _ _ ?_
    refine wS hF fun K14 hK14=>vV O (kY O hAr O 1 O CP (by show 0+32≤(dc (D.take k++List.replicate (32-k) 0++D.drop 32)).length; rw [aI,← hfin,dE _ _ hD]; decide) (new:=dc (kN D m)) (by rw [List.drop_zero,hfin]; exact P8 (by rw [aI,← hfin,dE _ _ hD]; exact P5 _))) fun a hF=>?_
    refine az O (fun K hK=>iZ hF O O hAr O O 0 O (JM (dE _ _ hD)) (iw _) JO (fun w5 hA5=>hK _ _ ?_))
    refine aG<|hK14 _ _ ?_
    apply wp_ret
    refine ni hF Tryz.results166 hA5 O 0 O (oI (dE _ _ hD)) ?_
    exact ⟨rfl,hA5.clear (lF (by have:=hA1.size; omega) (kS hb2))⟩
 by_cases hm:m<1
 ·refine aF hF O (dB hm) ?_
  refine wp_region_lit ?_
  refine vR hF<|vX O fun a hF=>?_
  refine aG ?_
  have hz1:z=1:=by omega
  rw [← hz1] at hF
  exact meet _ _ (hF.keep [1,2,4] rfl) hA2
 ·refine au hF O (dA ag) ?_
  apply wp_skip
  have hz1:z=m:=by omega
  rw [← hz1] at hF
  exact meet _ _ (hF.keep [1,2,4] rfl) hA2
set_option maxRecDepth 100000 in
set_option maxHeartbeats 1000000 in
theorem Em (w:World) (dom:UInt8) (di:Int) (hdi:IntKind.u8.wrap di=(dom.toNat:Int)) (pa:Option Addr) (ps:List Part) (c n:Nat) (hn:n=ps.length) (hP:Pieces w pa ps) (hlen:(flat ps).length<140737488353000) (hnb:n<9223372036854775807) :
  Calls Tryz.prog 168 #[.int .i64 di,.slice pa n c] w fun e w'=>∃ v Y,e= .returned v∧Own w 5 1 Y v (dom::flat ps).length (dc (dom::flat ps))∧At w Y w':=by
 subst hn
 have hA0:=At.refl w
 have hfl:∀ j,(flat (ps.take j)).length≤(flat ps).length:=fun j=>by
  have h2:flat ps=flat (ps.take j)++flat (ps.drop j):=by unfold flat; rw [← List.flatMap_append,List.take_append_drop]
  rw [h2,List.length_append]; omega
 refine aQ Tryz.func168 O Tryz.ntmps168 ai (fun a hF=>?_)
 refine wS hF fun K1 hK1=>vX O<|vE hK1<|wT fun K2 hK2=>vX O<|vV O (bJ O Qb PW O hdi) fun a hF=>?_
 refine az O (fun K hK=>rX hF O ae rfl hA0 dom rfl ut (fun g w1 a hg hF hA1=>hK _ _ ?_))
 have hO1:Own w 5 1 [(g,5,dc [dom])] (.slice (some ⟨g,0,none⟩) 1 1) (dom::flat (ps.take 0)).length (dc (dom::flat (ps.take 0))):=⟨rfl,.inr ⟨g,1,[],rfl,P5 _,hg,rfl,rfl⟩⟩
 refine vR hF<|vX O<|vE hK2<|wQ fun K3 hK3=>wT fun K4 hK4=>vX O<|vE hK4<|wBk fun a hF=>?_
 refine bH (G:=Nat) (fun i a x=>i≤ps.length∧∃ (vo:Value) (X:List Row),Fr 23 [(6,.int .i64 (i:Int)),(1,.slice pa ps.length c),(5,vo)] a∧Own w 5 1 X vo (dom::flat (ps.take i)).length (dc (dom::flat (ps.take i)))∧At w X x) (fun i=>ps.length-i) 0 ⟨PU _,_,_,hF.keep [6,1,5] rfl,hO1,hA1⟩ ?_
 clear hF
 rintro i a wr ⟨hi,vo,X,hF,hO,hAr⟩
 by_cases hlt:i<ps.length
 ·have hPr:=hP.fresh hAr hO.new
  have hne:ps≠[]:=fun e=>by rw [e] at hlt; exact absurd hlt (Nat.not_lt_zero _)
  obtain ⟨b,o,rfl,hbl,hcells⟩:=hPr.1 hne
  obtain ⟨⟨A,cA,l⟩,hp⟩:∃ q,ps[i]? = some q:=⟨_,List.getElem?_eq_getElem hlt⟩
  have hcell:=hcells i A cA l hp
  obtain ⟨hlc,hBl⟩:=hPr.2 A cA l (List.mem_of_getElem? hp)
  have hft:=qw hp
  have hfle:=Dj hp
  apply wp_seq_k; intro K5 hK5
  refine wS hF fun K6 hK6=>vX O<|vX O<|vV O (aU O Qu O O)<|vV O (aB O O O O O)<|vE hK6 fun a hF=>?_
  refine aF hF O (dB ag) ?_
  apply wp_skip
  refine hK5 _ _ ?_
  apply wp_seq_k; intro K7 hK7
  apply wp_block
  refine wp_region_lit ?_
  refine vR hF<|vX O<|vX O<|vX O<|vV O (bF O Qu JP O O i rfl hlt (ad2 _ _ _))<|vV O (lH O O hcell O0) fun a hF=>?_
  refine az O (fun K hK=>Nc hF O ae rfl [] (X:=X) hAr hO PZ dS rfl rfl (Bts.src PZ hBl) (by simp only [List.length_cons]; omega) ae (fun v2 X2 w2 a hO2 hF hA2=>hK _ _ ?_))
  have e2:(dom::flat (ps.take i)).length+l.length=(dom::flat (ps.take (i+1))).length:=by rw [hft]; simp; omega
  rw [← bV,e2,List.cons_append,← hft] at hO2
  refine vR hF<|vX O fun a hF=>aG<|hK7 _ _ ?_
  refine wp_region_lit ?_
  refine vR hF<|vX O<|vV O (bn O O O (PX _ ag))<|vX O fun a hF=>?_
  refine aG ?_
  exact ⟨i+1,ag,ag,v2,X2,hF.keep [6,1,5] rfl,hO2,hA2⟩
 ·obtain rfl:i=ps.length:=by omega
  rw [zl] at hO
  apply wp_seq_k; intro K8 hK8
  refine wS hF fun K9 hK9=>vX O<|vX O<|vV O (aU O Qu O O)<|vV O (aB O O O O O)<|vE hK9 fun a hF=>?_
  refine au hF O (dA ag) ?_
  apply wp_exit
  refine hK3 _ _ ?_
  refine wS hF fun K10 hK10=>vX O<|vX O<|vE hK10 fun a hF=>?_
  apply wp_ret
  refine aO hF Tryz.results168 O ?_
  exact ⟨vo,X,rfl,hO,hAr⟩
set_option maxRecDepth 100000 in
set_option maxHeartbeats 1000000 in
theorem JY (w:World) (width:Int) (dom:UInt8) (di:Int) (hdi:IntKind.u8.wrap di=(dom.toNat:Int)) (pa:Option Addr) (ps:List Part) (c n:Nat) (hn:n=ps.length) (hP:Pieces w pa ps) (hlen:(flat ps).length<140737488353000) (hnb:n<9223372036854775807) :
  Calls Tryz.prog 118 #[.int .i64 width,.int .i64 di,.slice pa n c] w fun e w'=>e= .returned (.agg (dc (ofL width dom (flat ps))).toArray)∧At w [] w':=by
 have hA0:=At.refl w
 refine aQ Tryz.func118 O Tryz.ntmps118 ai (fun a hF=>?_)
 refine wp_seq_k fun K1 hK1=>wp_region_lit ?_
 refine az O (fun K hK=>iI hF O ae rfl hA0 nU (fun b2 w1 a hb2 hF hA1=>hK _ _ ?_))
 refine aG<|hK1 _ _ ?_
 refine wS hF fun K2 hK2=>vX O<|vX O fun a hF=>?_
 refine az O (fun K hK=>ay hF O ae LW rfl rfl ?_)
 with_reducible refine (Em w1 dom di hdi pa ps c n hn (hP.fresh hA1 (kS hb2)) hlen hnb).mono ?_
 rintro e' w2 ⟨v2,Y,rfl,hO,hc2⟩
 refine ⟨_,rfl,fun a hF=>hK _ _ ?_⟩
 have hOn:=hO.new
 obtain ⟨_,A2,c2,rfl,hc2l,hB2⟩:=EI hO
 have hBw:=hB2 [] w2 hc2
 have hA2:At w (Y++[(b2,29,dc (List.replicate 32 0))]) w2:=hA1.thenNew hc2 hOn
 have hA2:At w [(b2,29,dc (List.replicate 32 0))] w2:=hA2.drop (List.sublist_append_right _ _) (fun r hr hlt=>by
  rcases List.mem_append.1 hr with hr | hr
  ·have:=hOn r hr; have:=hA1.size; omega
  ·exact hr)
 refine az O (fun K hK=>ay hF O ae Md rfl rfl ?_)
 with_reducible refine (AZ w2 A2 (dom::flat ps) c2 _ O hBw (by simp only [List.length_cons]; omega)).mono ?_
 rintro e' w3 ⟨rfl,hc3⟩
 refine ⟨_,rfl,fun a hF=>hK _ _ ?_⟩
 have hA3:=hA2.then0 hc3
 refine vR hF<|vX O fun a hF=>?_
 refine az O (fun K hK=>ay hF O ae LQ rfl rfl ?_)
 with_reducible refine (Gy _ width w3 (eY _)).mono ?_
 rintro e' w4 ⟨rfl,hc4⟩
 refine ⟨_,rfl,fun a hF=>hK _ _ ?_⟩
 have hA4:=hA3.then0 hc4
 refine az O (fun K hK=>iZ hF O O hA4 O O 0 O (JM (dE _ _ (eY _))) (iw _) JO (fun w5 hA5=>hK _ _ ?_))
 refine aG<|hK2 _ _ ?_
 apply wp_ret
 refine ni hF Tryz.results118 hA5 O 0 O (oI (dE _ _ (eY _))) ?_
 exact ⟨rfl,hA5.clear (kS hb2)⟩
end Go.Proofs.YtepbmdlgdaedpaaGreatDoor
namespace Go.Dk
open Go Go.RowKit
section
variable {e:TypeId} {sz n c j:Nat} {X:Seg} {A:Option Addr} {W:List Value}
theorem set_mid {B Z:List Value} {u:Value} (hW:W.length=j) (hZ:1≤Z.length):(B++W++Z).set (B.length+j) u=B++W++([u]++Z.drop 1):=by
  cases Z with
  | nil=>simp at hZ
  | cons z Z =>
    subst hW
    rw [List.set_append_right _ _ (by rw [List.length_append]; exact P5 _),List.length_append,Nat.sub_self]
    rfl
end
section
variable {α:Type}
def mkL (mv:Nat→α) (j:Nat):List α:=(List.range j).map mv
def Mk (C:α→List Value) (e:TypeId) (sz:Nat) (mv:Nat→α) (k:KeptX α) (X:Seg):Prop:=∃ A c,k.v= .slice A k.l.length c∧Buf e sz X (.slice A c c) c (cel C (mkL mv c))
def ApS (C:α→List Value) (e:TypeId) (sz:Nat) (mv:Nat→Nat→α) (ks:List (KeptX α)) (i:Nat) (XS:List Seg):Prop :=
  XS.length=ks.length∧∀ m k X,ks[m]? = some k→XS[m]? = some X→(m<i→Mk C e sz (mv m) k X)∧(i≤m→Buf e sz X k.v k.l.length (cel C k.l))
variable {C:α→List Value} {e:TypeId} {sz i:Nat} {mv:Nat→Nat→α} {ks:List (KeptX α)} {XS:List Seg}
theorem ApS.new (hK:∀ k∈ks,KOK C e sz k):ApS C e sz mv ks 0 (ks.map (·.X)):=by
  refine ⟨by simp,fun m k X h1 h2=>⟨fun h=>absurd h (Nat.not_lt_zero _),fun _=>?_⟩⟩
  rw [List.getElem?_map,h1] at h2
  injection h2 with h2
  subst h2
  exact (hK k (List.mem_of_getElem? h1)).2.2.1
theorem ApS.at (h:ApS C e sz mv ks i XS) {m:Nat} (hm:m<ks.length):∃ k X,ks[m]? = some k∧XS[m]? = some X∧(m<i→Mk C e sz (mv m) k X)∧(i≤m→Buf e sz X k.v k.l.length (cel C k.l)):=by
  have h1:ks[m]? = some ks[m]:=List.getElem?_eq_getElem hm
  have h2:XS[m]? = some (XS[m]'(by rw [h.1]; exact hm)):=List.getElem?_eq_getElem _
  exact ⟨_,_,h1,h2,h.2 m _ _ h1 h2⟩
theorem ApS.step (h:ApS C e sz mv ks i XS) {k:KeptX α} {X:Seg} (hk:ks[i]? = some k) (hX:Mk C e sz (mv i) k X):ApS C e sz mv ks (i+1) (XS.set i X):=by
  refine ⟨by rw [List.length_set]; exact h.1,fun m k' X' h1 h2=>?_⟩
  by_cases hm:m=i
  · subst hm
    rw [hk] at h1
    injection h1 with h1
    subst h1
    have hl:=(List.getElem?_eq_some_iff.1 h2).1
    rw [List.length_set] at hl
    rw [List.getElem?_set_self hl] at h2
    injection h2 with h2
    subst h2
    exact ⟨fun _=>hX,fun h=>absurd h ag⟩
  · rw [List.getElem?_set_ne (fun h=>hm h.symm)] at h2
    obtain ⟨h3,h4⟩:=h.2 m k' X' h1 h2
    exact ⟨fun h=>h3 ag,fun h=>h4 ag⟩
variable {w0 w:World} {R:List Seg} {B XL XW X:Seg}
def BookV (C:α→List Value) (se e:TypeId) (sz:Nat) (ks:List (KeptX α)) (lv wv:Value) (Y:Seg):Prop :=
  ks.length≤4000∧∃ XL XW,Buf se 1 XL lv ks.length (ks.map (·.v))∧Buf se 1 XW wv ks.length (ks.map (·.cv))∧(∀ k∈ks,KOK C e sz k)∧Y=XL++(XW++MS ks)
theorem BookV.new (C:α→List Value) (se e:TypeId) (sz:Nat):BookV C se e sz [] (.slice none 0 0) (.slice none 0 0) [] :=
  ⟨PU _,[],[],Buf.nil _ _,Buf.nil _ _,(fun _ h=>by cases h),rfl⟩
end
section
variable {P:Program} {w:World} {n:Nat} {F:List (Nat × Value)} {o:Oper} {t t':TypeId} {x y:Operand}
end
end Go.Dk
namespace Go.Proofs.YtepbmdlgdaedpaaGreatDoor
open Go.RowKit Go.Dk
theorem Tab.hp {w0 w:World} {S:List Seg} (hT:Tab w0) (hA:Hp w0 S w):Tab w:=fun i hi=>by
  have h1:=hT i hi
  have h0:=hA.frame 2 hT.lt
  unfold World.cell? at h1 ⊢
  simp only [h0]
  exact h1
theorem Hp.poke {w0 w:World} {R:List Seg} {g:Nat} {o:Obj} (o':Obj) (h:Hp w0 ([(g,o)]::R) w):∃ w',Hp w0 ([(g,o')]::R) w'∧w'.heap[g]? = some o':=by
  have hg:w.heap[g]? = some o:=h.items (g,o) (P6 ..)
  have hlt:g<w.heap.size:=(Array.getElem?_eq_some_iff.1 hg).1
  have hnew:w0.heap.size≤g:=h.new (g,o) (P6 ..)
  have hd:=h.dist
  simp only [List.flatten_cons,List.cons_append,List.nil_append,List.map_cons,List.nodup_cons] at hd
  have hset:(w.heap.setIfInBounds g o')[g]? = some o':=by rw [Array.getElem?_setIfInBounds_self_of_lt hlt]
  refine ⟨{ w with heap:=w.heap.setIfInBounds g o' },⟨h.os,h.tape,h.output,by rw [Array.size_setIfInBounds]; exact h.size,?_,?_,?_,?_⟩,hset⟩
  · intro r hr
    rcases List.mem_cons.1 hr with rfl | hr
    · exact hset
    · have hne:g≠r.1:=fun e=>hd.1 (e ▸ List.mem_map_of_mem hr)
      rw [Array.getElem?_setIfInBounds_ne hne]
      exact h.items r (P7 _ hr)
  · simp only [List.flatten_cons,List.cons_append,List.nil_append,List.map_cons,List.nodup_cons]
    exact hd
  · intro r hr
    rcases List.mem_cons.1 hr with rfl | hr
    · exact hnew
    · exact h.new r (P7 _ hr)
  · intro k hk
    rw [Array.getElem?_setIfInBounds_ne ag]
    exact h.frame k hk
theorem Rd.off {w0 w:World} {R:List Seg} {g:Nat} {t:TypeId} {cs:List Value} {A:Option Addr} {l:List UInt8} (hR:Rd w0 R A l) (hA:Hp w0 ([row g t cs]::R) w):l≠[]→Off A g:=fun hne ad he hb=>by
  obtain ⟨b,o,h1,h2⟩:=hR (fun e=>hne (List.length_eq_zero_iff.1 (by rw [← aI,e]; rfl)))
  rw [h1] at he
  injection he with he
  subst he
  subst hb
  obtain ⟨w',h3,h4⟩:=Hp.poke (.cells (List.toArray []) t (0,0)) hA
  have h5:=(h2 w' (Hp.tail h3).q).2 0 (by rw [aI]; exact List.length_pos_iff.2 hne)
  rw [cell_of_row w' b (o+0) _ t (0,0) h4] at h5
  have h6:(dc l)[0]? = some (.int .u8 ((bAt l 0).toNat:Int)):=ui (List.length_pos_iff.2 hne)
  rw [h6] at h5
  simp at h5
theorem Hp.apart {w0 w:World} {X:Seg} {S:List Seg} {r r':Dk.Item} (h:Hp w0 (X::S) w) (hr:r∈X) (hr':r'∈S.flatten):r'.1≠r.1:=fun e=>by
  have hd:=h.dist
  rw [List.flatten_cons,List.map_append,List.nodup_append] at hd
  exact hd.2.2 _ (List.mem_map_of_mem hr) _ (List.mem_map_of_mem hr') e.symm
end Go.Proofs.YtepbmdlgdaedpaaGreatDoor
