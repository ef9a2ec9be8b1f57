/- Texts that belong together, one behind the other. -/
import Derived.Test.YtpomngkcfbnjoaaGreatDoorTab2
namespace Go.Proofs.YtpomngkcfbnjoaaGreatDoor
open Go.RowKit Go.Dk
def Bc (dig tx:Nat→List UInt8) (n:Nat):Prop:=∀ a b,a<n→b<n→dig a=dig b→tx a=tx b
def Qv (dig tx:Nat→List UInt8) (i j:Nat):Prop:=i<j∧dig i=dig j∧tx i≠tx j∧Bc dig tx j∧∀ a,a<i→dig a≠dig j
structure Firsts (dig tx:Nat→List UInt8) (M:List (List UInt8 × Nat)) (j:Nat):Prop where
  idx:∀ p∈M,p.2<j∧p.1=dig p.2∧∀ a,a<p.2→dig a≠p.1
  cov:∀ a,a<j→∃ p∈M,p.1=dig a∧tx p.2=tx a
section
variable {dig tx:Nat→List UInt8} {M:List (List UInt8 × Nat)} {j:Nat}
theorem Firsts.nil:Firsts dig tx [] 0:=⟨(fun _ h=>by cases h),fun a h=>absurd h (Nat.not_lt_zero a)⟩
theorem Firsts.none (h:Firsts dig tx M j):Bc dig tx j:=by
  intro a b ha hb hab
  obtain ⟨p,hp,p1,p2⟩:=h.cov a ha
  obtain ⟨q,hq,q1,q2⟩:=h.cov b hb
  have hpq:p.1=q.1:=by rw [p1,q1,hab]
  obtain ⟨_,e1,m1⟩:=h.idx p hp
  obtain ⟨_,e2,m2⟩:=h.idx q hq
  have:p.2=q.2:=by
    rcases Nat.lt_trichotomy p.2 q.2 with h1 | h1 | h1
    · exact absurd (e1.symm.trans hpq) (m2 _ h1)
    · exact h1
    · exact absurd (e2.symm.trans hpq.symm) (m1 _ h1)
  rw [← p2,← q2,this]
theorem Firsts.push (h:Firsts dig tx M j) (hno:∀ p∈M,p.1≠dig j):Firsts dig tx (M++[(dig j,j)]) (j+1):=by
  refine ⟨fun p hp=>?_,fun a ha=>?_⟩
  · rcases List.mem_append.1 hp with hp | hp
    · obtain ⟨h1,h2,h3⟩:=h.idx p hp; exact ⟨ ag,h2,h3⟩
    · simp only [List.mem_cons,List.not_mem_nil,or_false] at hp
      subst hp
      refine ⟨Nat.lt_succ_self _,rfl,fun a ha he=>?_⟩
      obtain ⟨q,hq,q1,_⟩:=h.cov a ha
      exact hno q hq (q1.trans he)
  · rcases Nat.lt_or_ge a j with h1 | h1
    · obtain ⟨p,hp,e⟩:=h.cov a h1; exact ⟨p,TD _ hp,e⟩
    · obtain rfl:a=j:=by omega
      exact ⟨_,TE _ (TF ..),rfl,rfl⟩
theorem Firsts.same (h:Firsts dig tx M j) {i:Nat} (hi:(dig j,i)∈M) (he:tx i=tx j):Firsts dig tx M (j+1):=by
  refine ⟨fun p hp=>?_,fun a ha=>?_⟩
  · obtain ⟨h1,h2,h3⟩:=h.idx p hp; exact ⟨ ag,h2,h3⟩
  · rcases Nat.lt_or_ge a j with h1 | h1
    · exact h.cov a h1
    · obtain rfl:a=j:=by omega
      exact ⟨_,hi,rfl,he⟩
end
end Go.Proofs.YtpomngkcfbnjoaaGreatDoor
namespace Go.Proofs.YtpomngkcfbnjoaaGreatDoor
open Go.RowKit Go.Dk
set_option linter.unusedVariables false
section
variable {w d c h:Int} {X Y:List UInt8} {p q:Value}
end
theorem lu {D:List UInt8} (h:D.length=32):(List.range 32).map (bAt D)=D:=by
 apply List.ext_getElem?
 intro i
 rw [List.getElem?_map]
 by_cases hi:i<32
 ·rw [List.getElem?_range hi,List.getElem?_eq_getElem ag]
  simp [bAt,h,hi]
 ·rw [List.getElem?_eq_none (by simp; omega),List.getElem?_eq_none ag]; rfl
theorem Own.drawn {w0:World} {X:List Row} {v:Value} {n:Nat} {W:List Value} (h:Own w0 5 1 X v n W):Own w0 5 1 X v n W:=h
set_option maxRecDepth 100000 in
set_option maxHeartbeats 1000000 in
theorem zA (w:World) (n:Int) :
  Calls Tryz.prog 48 #[.int .i64 n] w fun e w'=>∃ g,e= .returned (.slice (some ⟨g,0,none⟩) 8 8)∧w.heap.size≤g∧At w [(g,5,dc (be 8 (c64 n)))] w':=by
 have hA0:=At.refl w
 obtain ⟨N,hN⟩:∃ N,N=c64 n:=⟨_,rfl⟩
 have hwr:IntKind.u64.wrap n=(N:Int):=by rw [hN]; exact DX n
 rw [← hN]
 refine aJ Tryz.func48 O Tryz.ntmps48 ai (fun a hF=>?_)
 refine wS hF fun K1 hK1=>vX O<|vE hK1 fun a hF=>?_
 refine wp_seq_k fun K2 hK2=>wp_region_lit ?_
 refine au O (fun K hK=>N9 hF O ae rfl hA0 TC NQ 8 O O O O ae (fun g w1 a hg hF hA1=>hK _ _ ?_))
 refine vR hF<|vX O<|vE hK2<|wQ fun K3 hK3=>wT fun K4 hK4=>vX O<|vE hK4<|wBk fun a hF=>?_
 refine bQ (G:=Nat) (fun i a x=>i≤8∧Fr 22 [(4,.int .i64 (i:Int)),(0,.int .i64 n),(3,.slice (some ⟨g,0,none⟩) 8 8)] a∧At w [(g,5,dc ((be 8 N).take i++List.replicate (8-i) 0))] x) (fun i=>8-i) 0 ⟨Tv _,hF.keep [4,0,3] rfl,hA1⟩ ?_
 clear hF
 rintro i a wr ⟨hi,hF,hAr⟩
 by_cases hlt:i<8
 ·apply wp_seq_k; intro K5 hK5
  refine wS hF fun K6 hK6=>vX O<|vV O (aH O O O O O)<|vE hK6 fun a hF=>?_
  refine aZ hF O (dB ag) ?_
  apply wp_skip
  refine hK5 _ _ ?_
  apply wp_seq_k; intro K7 hK7
  apply wp_block
  refine wp_region_lit ?_
  refine vR hF<|vX O<|vX O<|vX O<|vV O (fP O TP Ue O hwr)<|vX O<|vV O (uw O O O (show IntKind.i64.wrap (8*(i:Int))=((8*i:Nat):Int) by rw [TB _ ag]; omega)) fun a hF=>?_
  refine vR hF<|vV O (dm O O O (show IntKind.i64.wrap (56-((8*i:Nat):Int))=((56-8*i:Nat):Int) by rw [TB _ ag]; omega)) fun a hF=>?_
  refine vR hF<|vV O (fP O TP TQ O (show IntKind.u64.wrap ((56-8*i:Nat):Int)=((56-8*i:Nat):Int) by rw [IntKind.wrap_u64]; omega)) fun a hF=>?_
  refine vR hF<|vV O (mP O O O ag rfl)<|vV O (fP O Ue TA O (Ak N (7-i) (56-8*i) ag ag))<|vV O (bi O TC nV rfl rfl i rfl ag (ad2 _ _ _)) fun a hF=>?_
  refine au O (fun K hK=>fQ hF O O hAr O O 0 O (by rw [aj]; simp [be]; omega) rfl nV (fun w3 hA3=>hK _ _ ?_))
  replace hA3:At w [(g,5,dc ((be 8 N).take (i+1)++List.replicate (8-(i+1)) 0))] w3:=by rw [show 8-i=(8-(i+1))+1 by omega,Nat.zero_add,wz (UInt8.ofNat (N/256 ^ (7-i))) (NR (k:=8) ag)] at hA3; exact hA3
  refine az<|hK7 _ _ ?_
  refine wp_region_lit ?_
  refine vR hF<|vX O<|vV O (bH O O O (TB _ ag))<|vX O fun a hF=>?_
  refine az ?_
  exact ⟨i+1,ag,ag,hF.keep [4,0,3] rfl,hA3⟩
 ·obtain rfl:i=8:=by omega
  rw [TJ (by simp [be]),Nat.sub_self,List.replicate_zero,List.append_nil] at hAr
  apply wp_seq_k; intro K8 hK8
  refine wS hF fun K9 hK9=>vX O<|vV O (aH O O O O O)<|vE hK9 fun a hF=>?_
  refine aS hF O (dD ag) ?_
  apply wp_exit
  refine hK3 _ _ ?_
  refine wS hF fun K10 hK10=>vX O<|vX O<|vE hK10 fun a hF=>?_
  apply wp_ret
  refine aO hF Tryz.results48 O ?_
  exact ⟨g,rfl,hg,hAr⟩
end Go.Proofs.YtpomngkcfbnjoaaGreatDoor
namespace Go.Proofs.YtpomngkcfbnjoaaGreatDoor
open Go.RowKit Go.Dk
theorem MQ {D:List UInt8} (hD:D.length=32) {k i:Nat} (hk:k≤i) (hi:i<32):(dc (D.take k++List.replicate (i-k) 0++D.drop i)).set i (.int .u8 0)=dc (D.take k++List.replicate (i+1-k) 0++D.drop (i+1)):=by
 have hl:(D.take k++List.replicate (i-k) (0:UInt8)).length=i:=by simp [hD]; omega
 rw [List.drop_eq_getElem_cons (show i<D.length by omega),eG,List.set_append,if_neg (by rw [aj,hl]; omega),aj,hl,Nat.sub_self]
 rw [show i+1-k=(i-k)+1 by omega,List.replicate_succ',eG,eG,eG,eG]
 simp [dc]
 rw [List.drop_eq_getElem_cons (by simp; omega)]
 rfl
theorem Py {D:List UInt8} (hD:D.length=32) (k:Nat):D.take k++List.replicate (k-k) 0++D.drop k=D:=by simp
theorem Qc:aG Tryz.prog 50:=⟨_,Tryz.func50,af,af⟩
theorem P5:aG Tryz.prog 47:=⟨_,Tryz.func47,af,af⟩
theorem GY:aG Tryz.prog 65:=⟨_,Tryz.func65,af,af⟩
theorem PV:aG Tryz.prog 49:=⟨_,Tryz.func49,af,af⟩
theorem PO:aG Tryz.prog 48:=⟨_,Tryz.func48,af,af⟩
set_option maxRecDepth 100000 in
set_option maxHeartbeats 1000000 in
theorem Cm (D:List UInt8) (m:Int) (w:World) (hD:D.length=32) :
  Calls Tryz.prog 49 #[.agg (dc D).toArray,.int .i64 m] w fun e w'=>e= .returned (.agg (dc (gZ D m)).toArray)∧At w [] w':=by
 have hA0:=At.refl w
 obtain ⟨z,hz⟩:∃ z:Int,z=max m 1:=⟨_,rfl⟩
 refine aJ Tryz.func49 O Tryz.ntmps49 ai (fun a hF=>?_)
 refine wp_seq_k fun K1 hK1=>wp_region_lit ?_
 refine au O (fun K hK=>lT (cs:=dc D) hF O ae rfl hA0 O (fun b2 w1 a hb2 hF hA1=>hK _ _ ?_))
 refine au O (fun K hK=>fZ hF O ae rfl hA1 jE (fun b4 w2 a hb4 hF hA2=>hK _ _ ?_))
 replace hA2:At w [(b4,25,dc (List.replicate 32 0)),(b2,25,dc D)] w2:=hA2
 refine az<|hK1 _ _ ?_
 apply wp_seq_k; intro K2 hK2
 refine wS hF fun K3 hK3=>vX O<|vV O (aH O O O O O)<|vE hK3 fun a hF=>?_
 have meet:∀ (a:Act) (x:World),Fr 16 [(1,.int .i64 z),(2,.pointer (some ⟨b2,0,none⟩)),(4,.pointer (some ⟨b4,0,none⟩))] a→At w [(b4,25,dc (List.replicate 32 0)),(b2,25,dc D)] x→K2 a x:=by
  clear hF
  intro a w2 hF hA2
  refine hK2 _ _ ?_
  apply wp_seq_k; intro K4 hK4
  refine wS hF fun K5 hK5=>vX O<|vX O<|vE hK5<|wBk fun a hF=>?_
  by_cases hbig:32≤z
  ·have hfin:gZ D m=D:=by
    have hk:kept m=32:=by unfold kept; omega
    rw [gZ,hk,TJ ag]
    simp
   refine bQ (G:=Unit) (fun _ a x=>Fr 16 [(5,.int .i64 z),(2,.pointer (some ⟨b2,0,none⟩)),(4,.pointer (some ⟨b4,0,none⟩))] a∧At w [(b4,25,dc (List.replicate 32 0)),(b2,25,dc D)] x) (fun _=>0) () ⟨hF.keep [5,2,4] rfl,hA2⟩ ?_
   clear hF hA2
   rintro _ a wr ⟨hF,hAr⟩
   apply wp_seq_k; intro K6 hK6
   refine wS hF fun K7 hK7=>vX O<|vV O (aH O O O O O)<|vE hK7 fun a hF=>?_
   refine aS hF O (dD hbig) ?_
   apply wp_exit
   refine hK4 _ _ ?_
   refine wS hF fun K8 hK8=>vV O (iR O hAr O 1 O Cb (by show 0+32≤(dc D).length; rw [aj,← hfin,dJ _ _ hD]; decide) (new:=dc (gZ D m)) (by rw [List.drop_zero,hfin]; exact TJ (by rw [aj,← hfin,dJ _ _ hD]; exact TG _))) fun a hF=>?_
   refine au O (fun K hK=>eu hF O O hAr O O 0 O (yx (dJ _ _ hD)) (bz _) yz (fun w5 hA5=>hK _ _ ?_))
   refine az<|hK8 _ _ ?_
   apply wp_ret
   refine jq hF Tryz.results49 hA5 O 0 O (jK (dJ _ _ hD)) ?_
   exact ⟨rfl,hA5.clear (cZ (by have:=hA1.size; omega) (eQ hb2))⟩
  ·obtain ⟨k,hkz⟩:∃ k:Nat,z=(k:Int):=⟨z.toNat,ag⟩
   subst hkz
   have hk32:k<32:=by omega
   have hkk:kept m=k:=by unfold kept; omega
   refine bQ (G:=Nat) (fun i a x=>k≤i∧i≤32∧Fr 16 [(5,.int .i64 (i:Int)),(2,.pointer (some ⟨b2,0,none⟩)),(4,.pointer (some ⟨b4,0,none⟩))] a∧At w [(b4,25,dc (List.replicate 32 0)),(b2,25,dc (D.take k++List.replicate (i-k) 0++D.drop i))] x) (fun i=>32-i) k ⟨TG _,ag,hF.keep [5,2,4] rfl,by rw [Py hD]; exact hA2⟩ ?_
   clear hF
   rintro i a wr ⟨hki,hi32,hF,hAr⟩
   by_cases hi:i<32
   ·apply wp_seq_k; intro K9 hK9
    refine wS hF fun K10 hK10=>vX O<|vV O (aH O O O O O)<|vE hK10 fun a hF=>?_
    refine aZ hF O (dB ag) ?_
    apply wp_skip
    refine hK9 _ _ ?_
    apply wp_seq_k; intro K11 hK11
    apply wp_block
    refine wp_region_lit ?_
    refine vR hF<|vX O<|vV O (aP O Tz nV rfl rfl i rfl ag (ad1 _ _) (rfl:(none:Option Nat)=none)) fun a hF=>?_
    refine au O (fun K hK=>fQ hF O O hAr O O 1 O (by rw [aj]; simp [hD]; omega) rfl nV (fun w3 hA3=>hK _ _ ?_))
    replace hA3:At w [(b4,25,dc (List.replicate 32 0)),(b2,25,dc (D.take k++List.replicate (i+1-k) 0++D.drop (i+1)))] w3:=by have h:=hA3; simp only [List.set_cons_succ,List.set_cons_zero] at h; rw [MQ hD hki hi] at h; exact h
    refine az<|hK11 _ _ ?_
    refine wp_region_lit ?_
    refine vR hF<|vX O<|vV O (bH O O O (show IntKind.i64.wrap ((i:Int)+1)=((i+1:Nat):Int) by rw [TB _ ag]; omega)) fun a hF=>?_
    refine vR hF<|vX O fun a hF=>?_
    refine az ?_
    exact ⟨i+1,ag,ag,ag,hF.keep [5,2,4] rfl,hA3⟩
   ·obtain rfl:i=32:=by omega
    have hfin:gZ D m=D.take k++List.replicate (32-k) 0++D.drop 32:=by
     rw [gZ,hkk,List.drop_eq_nil_iff.2 ag,List.append_nil]
    apply wp_seq_k; intro K12 hK12
    refine wS hF fun K13 hK13=>vX O<|vV O (aH O O O O O)<|vE hK13 fun a hF=>?_
    refine aS hF O (dD ag) ?_
    apply wp_exit
    refine hK4 _ _ ?_
    refine wS hF fun K14 hK14=>vV O (iR O hAr O 1 O Cb (by show 0+32≤(dc (D.take k++List.replicate (32-k) 0++D.drop 32)).length; rw [aj,← hfin,dJ _ _ hD]; decide) (new:=dc (gZ D m)) (by rw [List.drop_zero,hfin]; exact TJ (by rw [aj,← hfin,dJ _ _ hD]; exact TG _))) fun a hF=>?_
    refine au O (fun K hK=>eu hF O O hAr O O 0 O (yx (dJ _ _ hD)) (bz _) yz (fun w5 hA5=>hK _ _ ?_))
    refine az<|hK14 _ _ ?_
    apply wp_ret
    refine jq hF Tryz.results49 hA5 O 0 O (jK (dJ _ _ hD)) ?_
    exact ⟨rfl,hA5.clear (cZ (by have:=hA1.size; omega) (eQ hb2))⟩
 by_cases hm:m<1
 ·refine aZ hF O (dB hm) ?_
  refine wp_region_lit ?_
  refine vR hF<|vX O fun a hF=>?_
  refine az ?_
  have hz1:z=1:=by omega
  rw [← hz1] at hF
  exact meet _ _ (hF.keep [1,2,4] rfl) hA2
 ·refine aS hF O (dD ag) ?_
  apply wp_skip
  have hz1:z=m:=by omega
  rw [← hz1] at hF
  exact meet _ _ (hF.keep [1,2,4] rfl) hA2
set_option maxRecDepth 100000 in
set_option maxHeartbeats 1000000 in
theorem y5 (w:World) (dom:UInt8) (di:Int) (hdi:IntKind.u8.wrap di=(dom.toNat:Int)) (pa:Option Addr) (ps:List Part) (c n:Nat) (hn:n=ps.length) (hP:Pieces w pa ps) (hlen:(flat ps).length<140737488353000) (hnb:n<9223372036854775807) :
  Calls Tryz.prog 47 #[.int .i64 di,.slice pa n c] w fun e w'=>∃ v Y,e= .returned v∧Own w 5 1 Y v (dom::flat ps).length (dc (dom::flat ps))∧At w Y w':=by
 subst hn
 have hA0:=At.refl w
 have hfl:∀ j,(flat (ps.take j)).length≤(flat ps).length:=fun j=>by
  have h2:flat ps=flat (ps.take j)++flat (ps.drop j):=by unfold flat; rw [← List.flatMap_append,List.take_append_drop]
  rw [h2,List.length_append]; omega
 refine aJ Tryz.func47 O Tryz.ntmps47 ai (fun a hF=>?_)
 refine wS hF fun K1 hK1=>vX O<|vE hK1<|wT fun K2 hK2=>vX O<|vV O (fP O TP TA O hdi) fun a hF=>?_
 refine au O (fun K hK=>qX hF O ae rfl hA0 dom rfl x8 (fun g w1 a hg hF hA1=>hK _ _ ?_))
 have hO1:Own w 5 1 [(g,5,dc [dom])] (.slice (some ⟨g,0,none⟩) 1 1) (dom::flat (ps.take 0)).length (dc (dom::flat (ps.take 0))):=⟨rfl,.inr ⟨g,1,[],rfl,TG _,hg,rfl,rfl⟩⟩
 refine vR hF<|vX O<|vE hK2<|wQ fun K3 hK3=>wT fun K4 hK4=>vX O<|vE hK4<|wBk fun a hF=>?_
 refine bQ (G:=Nat) (fun i a x=>i≤ps.length∧∃ (vo:Value) (X:List Row),Fr 23 [(6,.int .i64 (i:Int)),(1,.slice pa ps.length c),(5,vo)] a∧Own w 5 1 X vo (dom::flat (ps.take i)).length (dc (dom::flat (ps.take i)))∧At w X x) (fun i=>ps.length-i) 0 ⟨Tv _,_,_,hF.keep [6,1,5] rfl,hO1,hA1⟩ ?_
 clear hF
 rintro i a wr ⟨hi,vo,X,hF,hO,hAr⟩
 by_cases hlt:i<ps.length
 ·have hPr:=hP.fresh hAr hO.new
  have hne:ps≠[]:=fun e=>by rw [e] at hlt; exact absurd hlt (Nat.not_lt_zero _)
  obtain ⟨b,o,rfl,hbl,hcells⟩:=hPr.1 hne
  obtain ⟨⟨A,cA,l⟩,hp⟩:∃ q,ps[i]? = some q:=⟨_,List.getElem?_eq_getElem hlt⟩
  have hcell:=hcells i A cA l hp
  obtain ⟨hlc,hBl⟩:=hPr.2 A cA l (List.mem_of_getElem? hp)
  have hft:=um hp
  have hfle:=GI hp
  apply wp_seq_k; intro K5 hK5
  refine wS hF fun K6 hK6=>vX O<|vX O<|vV O (aY O TL O O)<|vV O (aH O O O O O)<|vE hK6 fun a hF=>?_
  refine aZ hF O (dB ag) ?_
  apply wp_skip
  refine hK5 _ _ ?_
  apply wp_seq_k; intro K7 hK7
  apply wp_block
  refine wp_region_lit ?_
  refine vR hF<|vX O<|vX O<|vX O<|vV O (bi O TL uV O O i rfl hlt (ad2 _ _ _))<|vV O (zG O O hcell SV) fun a hF=>?_
  refine au O (fun K hK=>zH hF O ae rfl [] (X:=X) hAr hO TC nR rfl rfl (Bts.src TC hBl) (by simp only [List.length_cons]; omega) ae (fun v2 X2 w2 a hO2 hF hA2=>hK _ _ ?_))
  have e2:(dom::flat (ps.take i)).length+l.length=(dom::flat (ps.take (i+1))).length:=by rw [hft]; simp; omega
  rw [← eG,e2,List.cons_append,← hft] at hO2
  refine vR hF<|vX O fun a hF=>az<|hK7 _ _ ?_
  refine wp_region_lit ?_
  refine vR hF<|vX O<|vV O (bH O O O (TB _ ag))<|vX O fun a hF=>?_
  refine az ?_
  exact ⟨i+1,ag,ag,v2,X2,hF.keep [6,1,5] rfl,hO2,hA2⟩
 ·obtain rfl:i=ps.length:=by omega
  rw [Du] at hO
  apply wp_seq_k; intro K8 hK8
  refine wS hF fun K9 hK9=>vX O<|vX O<|vV O (aY O TL O O)<|vV O (aH O O O O O)<|vE hK9 fun a hF=>?_
  refine aS hF O (dD ag) ?_
  apply wp_exit
  refine hK3 _ _ ?_
  refine wS hF fun K10 hK10=>vX O<|vX O<|vE hK10 fun a hF=>?_
  apply wp_ret
  refine aO hF Tryz.results47 O ?_
  exact ⟨vo,X,rfl,hO,hAr⟩
set_option maxRecDepth 100000 in
set_option maxHeartbeats 1000000 in
theorem Ae (w:World) (width:Int) (dom:UInt8) (di:Int) (hdi:IntKind.u8.wrap di=(dom.toNat:Int)) (pa:Option Addr) (ps:List Part) (c n:Nat) (hn:n=ps.length) (hP:Pieces w pa ps) (hlen:(flat ps).length<140737488353000) (hnb:n<9223372036854775807) :
  Calls Tryz.prog 65 #[.int .i64 width,.int .i64 di,.slice pa n c] w fun e w'=>e= .returned (.agg (dc (ofL width dom (flat ps))).toArray)∧At w [] w':=by
 have hA0:=At.refl w
 refine aJ Tryz.func65 O Tryz.ntmps65 ai (fun a hF=>?_)
 refine wp_seq_k fun K1 hK1=>wp_region_lit ?_
 refine au O (fun K hK=>fZ hF O ae rfl hA0 jE (fun b2 w1 a hb2 hF hA1=>hK _ _ ?_))
 refine az<|hK1 _ _ ?_
 refine wS hF fun K2 hK2=>vX O<|vX O fun a hF=>?_
 refine au O (fun K hK=>ax hF O ae P5 rfl rfl ?_)
 with_reducible refine (y5 w1 dom di hdi pa ps c n hn (hP.fresh hA1 (eQ hb2)) hlen hnb).mono ?_
 rintro e' w2 ⟨v2,Y,rfl,hO,hc2⟩
 refine ⟨_,rfl,fun a hF=>hK _ _ ?_⟩
 have hOn:=hO.new
 obtain ⟨_,A2,c2,rfl,hc2l,hB2⟩:=uf hO
 have hBw:=hB2 [] w2 hc2
 have hA2:At w (Y++[(b2,25,dc (List.replicate 32 0))]) w2:=hA1.thenNew hc2 hOn
 have hA2:At w [(b2,25,dc (List.replicate 32 0))] w2:=hA2.drop (List.sublist_append_right _ _) (fun r hr hlt=>by
  rcases List.mem_append.1 hr with hr | hr
  ·have:=hOn r hr; have:=hA1.size; omega
  ·exact hr)
 refine au O (fun K hK=>ax hF O ae Qc rfl rfl ?_)
 with_reducible refine (xh w2 A2 (dom::flat ps) c2 _ O hBw (by simp only [List.length_cons]; omega)).mono ?_
 rintro e' w3 ⟨rfl,hc3⟩
 refine ⟨_,rfl,fun a hF=>hK _ _ ?_⟩
 have hA3:=hA2.then0 hc3
 refine vR hF<|vX O fun a hF=>?_
 refine au O (fun K hK=>ax hF O ae PV rfl rfl ?_)
 with_reducible refine (Cm _ width w3 (dH _)).mono ?_
 rintro e' w4 ⟨rfl,hc4⟩
 refine ⟨_,rfl,fun a hF=>hK _ _ ?_⟩
 have hA4:=hA3.then0 hc4
 refine au O (fun K hK=>eu hF O O hA4 O O 0 O (yx (dJ _ _ (dH _))) (bz _) yz (fun w5 hA5=>hK _ _ ?_))
 refine az<|hK2 _ _ ?_
 apply wp_ret
 refine jq hF Tryz.results65 hA5 O 0 O (jK (dJ _ _ (dH _))) ?_
 exact ⟨rfl,hA5.clear (eQ hb2)⟩
set_option maxRecDepth 100000 in
set_option maxHeartbeats 1000000 in
theorem uC (w:World) (width:Int) (X Y:List UInt8) (hX:X.length=32) (hY:Y.length=32) :
  Calls Tryz.prog 66 #[.int .i64 width,.agg (dc X).toArray,.agg (dc Y).toArray] w fun e w'=>e= .returned (.agg (dc (ofL width 4 (X++Y))).toArray)∧At w [] w':=by
 have hA0:=At.refl w
 refine aJ Tryz.func66 O Tryz.ntmps66 ai (fun a hF=>?_)
 refine wp_seq_k fun K1 hK1=>wp_region_lit ?_
 refine au O (fun K hK=>lT (cs:=dc X) hF O ae rfl hA0 O (fun b2 w1 a hb2 hF hA1=>hK _ _ ?_))
 refine au O (fun K hK=>lT (cs:=dc Y) hF O ae rfl hA1 O (fun b3 w2 a hb3 hF hA2=>hK _ _ ?_))
 have q3:w.heap.size≤b3:=by have:=hA1.size; omega
 refine au O (fun K hK=>fZ hF O ae rfl hA2 jE (fun b4 w3 a hb4 hF hA3=>hK _ _ ?_))
 replace hA3:At w [(b4,25,dc (List.replicate 32 0)),(b3,25,dc Y),(b2,25,dc X)] w3:=hA3
 refine az<|hK1 _ _ ?_
 apply wp_seq_k; intro K2 hK2
 refine ak 4 [3,4,5] [0,1,2,3,4,5] (fun _=>True) af af (trivial) ?_
 refine pR hF<|pX O O<|pW O O (fun _=>dG O Tz kX rfl (.none 0) (.none 32) ag ag dU)<|pW O O (fun _=>dG O Tz kX rfl (.none 0) (.none 32) ag ag dU) fun a hF=>?_
 refine bM O O O (fun K hK=>Jv hF O ae rfl hA3.drew rfl rfl (Bo _ _ _ _ _ _) (fun b5 w4 a hb5 hF hA4=>hK _ _ (fun _=>trivial) ?_))
 have q4:w.heap.size≤b4:=by have:=hA2.size; omega
 have hnr:∀ r∈[((b5,70,[.slice (some ⟨b2,0,none⟩) 32 32,.slice (some ⟨b3,0,none⟩) 32 32]):Row),(b4,25,dc (List.replicate 32 0)),(b3,25,dc Y),(b2,25,dc X)],w.heap.size≤r.1:=cZ (by have:=hA3.drew.size; omega) (cZ q4 (cZ q3 (eQ hb2)))
 have hP:Pieces w4 (some ⟨b5,0,none⟩) [(some ⟨b2,0,none⟩,32,X),(some ⟨b3,0,none⟩,32,Y)]:=Pieces.row hA4 (k:=0) (by rw [List.map_cons,List.map_cons,hX,hY]; rfl) (fun A' c' l' h=>by
  rcases List.mem_cons.1 h with h | h
  ·obtain ⟨rfl,rfl,rfl⟩:A'=some ⟨b2,0,none⟩∧c'=32∧l'=X:=by simpa using h
   exact ⟨ ag,tC hX hA4 (k:=3) rfl⟩
  ·obtain ⟨rfl,rfl,rfl⟩:A'=some ⟨b3,0,none⟩∧c'=32∧l'=Y:=by simpa using h
   exact ⟨ ag,tC hY hA4 (k:=2) rfl⟩)
 refine bM O O O (fun K hK=>ax hF O ae GY rfl rfl ?_)
 with_reducible refine (Ae w4 width 4 4 O (some ⟨b5,0,none⟩) _ 2 2 O hP (by rw [sK,List.length_append]; omega) ae).mono ?_
 rintro e' w5 ⟨rfl,hc5⟩
 refine ⟨_,rfl,fun a hF=>hK _ _ (fun h=>absurd h ae) ?_⟩
 have hA5:=hA4.then0 hc5
 clear hc5
 rw [sK] at hF
 refine bM O O O (fun K hK=>eu hF O O hA5 O O 1 O (yx (ja _ _ _)) (bz _) yz (fun w6 hA6=>hK _ _ (fun h=>absurd h ae) ?_))
 refine aB ?_
 refine hK2 _ _ ?_
 apply wp_ret
 refine jq hF Tryz.results66 hA6 O 1 O (jK (ja _ _ _)) ?_
 exact ⟨rfl,hA6.clear (cZ (by have:=hA3.drew.size; omega) (cZ q4 (cZ q3 (eQ hb2))))⟩
set_option maxRecDepth 100000 in
set_option maxHeartbeats 1000000 in
theorem EO (w:World) (width C:Int) (X Y:List UInt8) (hX:X.length=32) (hY:Y.length=32) :
  Calls Tryz.prog 67 #[.int .i64 width,.agg (dc X).toArray,.agg (.int .i64 C::dc Y).toArray] w fun e w'=>e= .returned (.agg (dc (ofL width 3 (X++be 8 (c64 C)++Y))).toArray)∧At w [] w':=by
 have hA0:=At.refl w
 refine aJ Tryz.func67 O Tryz.ntmps67 ai (fun a hF=>?_)
 refine wp_seq_k fun K1 hK1=>wp_region_lit ?_
 refine au O (fun K hK=>lT (cs:=dc X) hF O ae rfl hA0 O (fun b4 w1 a hb4 hF hA1=>hK _ _ ?_))
 refine au O (fun K hK=>lT (cs:=(.int .i64 C::dc Y)) hF O ae rfl hA1 O (fun b5 w2 a hb5 hF hA2=>hK _ _ ?_))
 have q5:w.heap.size≤b5:=by have:=hA1.size; omega
 refine au O (fun K hK=>fZ hF O ae rfl hA2 jE (fun b6 w3 a hb6 hF hA3=>hK _ _ ?_))
 replace hA3:At w [(b6,25,dc (List.replicate 32 0)),(b5,27,(.int .i64 C::dc Y)),(b4,25,dc X)] w3:=hA3
 refine az<|hK1 _ _ ?_
 apply wp_seq_k; intro K2 hK2
 refine ak 8 [4,7,8,9] [0,1,2,3,5,6,4,7,8,9] (fun x=>At w [(b6,25,dc (List.replicate 32 0)),(b5,27,(.int .i64 C::dc Y)),(b4,25,dc X)] x) af af (hA3.drew) ?_
 refine pR hF<|pX O O<|pW O O (fun _=>dG O Tz kX rfl (.none 0) (.none 32) ag ag dU)<|pW O O (fun _=>yf 0 O Uf O QY O)<|pV O O (fun x hx=>df O hx O 1 O O Bq)<|pW O O (fun _=>yf 1 O Uf O oV rfl)<|pW O O (fun _=>dG O Tz kX rfl (.none 0) (.none 32) ag ag dU) fun a hF=>?_
 refine bM O O O (fun K hK=>ax hF O ae PO rfl rfl ?_)
 with_reducible refine (zA _ C).mono ?_
 rintro e' w4 ⟨b8,rfl,hb8,hc4⟩
 refine ⟨_,rfl,fun a hF=>hK _ _ (fun _=>(hA3.drew.thenNew hc4 (eQ hb8)).drop (.cons _ (.refl _)) (fun r hr hlt=>by rcases List.mem_cons.1 hr with e | h; (subst e; have:=hA3.drew.size; simp only at hlt; omega); exact h)) ?_⟩
 have hA4:At w [(b8,5,dc (be 8 (c64 C))),(b6,25,dc (List.replicate 32 0)),(b5,27,(.int .i64 C::dc Y)),(b4,25,dc X)] w4:=hA3.drew.thenNew hc4 (eQ hb8)
 have q6:w.heap.size≤b6:=by have:=hA2.size; omega
 have q8:w.heap.size≤b8:=by have:=hA3.drew.size; omega
 refine bM O O O (fun K hK=>Ju hF O ae rfl hA4 O O O (Bl _ _ _ _ _ _ _ _ _) (fun b7 w7 a hb7 hF hA7=>hK _ _ (fun _=>hA7.drop (.cons _ (.cons _ (.refl _))) (fun r hr hlt=>by rcases List.mem_cons.1 hr with e | h; (subst e; have:=hA4.size; simp only at hlt; omega); rcases List.mem_cons.1 h with e | h; (subst e; simp only at hlt; omega); exact h)) ?_))
 have hnr:∀ r∈[((b7,70,[.slice (some ⟨b4,0,none⟩) 32 32,.slice (some ⟨b8,0,none⟩) 8 8,.slice (some ⟨b5,1,none⟩) 32 32]):Row),(b8,5,dc (be 8 (c64 C))),(b6,25,dc (List.replicate 32 0)),(b5,27,(.int .i64 C::dc Y)),(b4,25,dc X)],w.heap.size≤r.1:=cZ (by have:=hA4.size; omega) (cZ q8 (cZ q6 (cZ q5 (eQ hb4))))
 have hP:Pieces w7 (some ⟨b7,0,none⟩) [(some ⟨b4,0,none⟩,32,X),(some ⟨b8,0,none⟩,8,be 8 (c64 C)),(some ⟨b5,1,none⟩,32,Y)]:=Pieces.row hA7 (k:=0) (by rw [List.map_cons,List.map_cons,List.map_cons,hX,hY]; rfl) (fun A' c' l' h=>by
  rcases List.mem_cons.1 h with h | h
  ·obtain ⟨rfl,rfl,rfl⟩:A'=some ⟨b4,0,none⟩∧c'=32∧l'=X:=by simpa using h
   exact ⟨ ag,tC hX hA7 (k:=4) rfl⟩
  ·rcases List.mem_cons.1 h with h | h
   ·obtain ⟨rfl,rfl,rfl⟩:A'=some ⟨b8,0,none⟩∧c'=8∧l'=be 8 (c64 C):=by simpa using h
    exact ⟨by simp [be],Bts.row hA7 (k:=1) rfl (by rw [List.drop_zero]; exact TJ (by rw [aj]; exact TG _))⟩
   ·obtain ⟨rfl,rfl,rfl⟩:A'=some ⟨b5,1,none⟩∧c'=32∧l'=Y:=by simpa using h
    exact ⟨ ag,Bts.row hA7 (k:=3) rfl (by rw [List.drop_succ_cons,List.drop_zero]; exact TJ (by rw [aj]; exact TG _))⟩)
 refine bM O O O (fun K hK=>ax hF O ae GY rfl rfl ?_)
 with_reducible refine (Ae w7 width 3 3 O (some ⟨b7,0,none⟩) _ 3 3 O hP (by rw [oJ,List.length_append,List.length_append,hX,hY]; simp [be]) ae).mono ?_
 rintro e' w8 ⟨rfl,hc8⟩
 refine ⟨_,rfl,fun a hF=>hK _ _ (fun h=>absurd h ae) ?_⟩
 have hA8:=hA7.then0 hc8
 clear hc8
 rw [oJ] at hF
 refine bM O O O (fun K hK=>eu hF O O hA8 O O 2 O (yx (ja _ _ _)) (bz _) yz (fun w9 hA9=>hK _ _ (fun h=>absurd h ae) ?_))
 refine aB ?_
 refine hK2 _ _ ?_
 apply wp_ret
 refine jq hF Tryz.results67 hA9 O 2 O (jK (ja _ _ _)) ?_
 exact ⟨rfl,hA9.clear (cZ (hnr _ (TF ..)) (cZ q8 (cZ (show w.heap.size≤b6 from q6) (cZ q5 (eQ hb4)))))⟩
end Go.Proofs.YtpomngkcfbnjoaaGreatDoor
