/- Values: whether they are formed, what is wrong with them. -/
import Derived.Test.YtepbmdlgdaedpaaGreatDoorEv1
/- Values: whether they are formed, what is wrong with them. -/
namespace Go.Proofs.YtepbmdlgdaedpaaGreatDoor
open Go.RowKit Go.Dk
theorem gW:bf Tryz.prog 22=true:=af
theorem jY:bf Tryz.prog 23=true:=af
theorem CU:isRow Tryz.prog 25 4=true:=af
theorem gV:(Tryz.prog.info? 22).map (·.size)=some 1:=af
theorem jW:(Tryz.prog.info? 23).map (·.size)=some 1:=af
theorem Bf:aO Tryz.prog 153:=⟨_,Tryz.func153,af,af⟩
theorem Be:aO Tryz.prog 154:=⟨_,Tryz.func154,af,af⟩
theorem Bd:aO Tryz.prog 155:=⟨_,Tryz.func155,af,af⟩
theorem Bc:aO Tryz.prog 156:=⟨_,Tryz.func156,af,af⟩
theorem A7:aO Tryz.prog 192:=⟨_,Tryz.func192,af,af⟩
set_option maxRecDepth 100000 in
set_option maxHeartbeats 2000000 in
theorem yx (n:Int) (w:World):Calls Tryz.prog 154 #[.int .i64 n] w fun e w'=>e= .returned (.bool (aI .geq n 0 && aI .leq n 4611686018427387904))∧w=w':=by
 refine aP Tryz.func154 O Tryz.ntmps154 ai (fun a hF=>?_)
 refine wS hF fun K1 hK1=>vX O<|vE hK1<|wT fun K2 hK2=>vX O<|vV O (ax O O O O O)<|vX O fun a hF=>?_
 refine bF (l2:=?lA1) hF [(8,.bool ((aI .geq (n) (0)) && (aI .leq (n) (4611686018427387904)))),(0,.int .i64 n),(2,.bool false)] (fun hJ1=>?elA1) (fun a hF=>?flA1)
 case elA1 =>
  rcases tf (aI .geq (n) (0)) with hg1 | hg1
  ·refine aF hF O O O O O (aG hg1) ae (fun a hF=>?_)
   refine aF hF O O O O O (aG hg1) ae (fun a hF=>?_)
   refine vR hF<|vV O (aV hg1 rfl rfl rfl) fun a hF=>?_
   exact hJ1 _ ((hF.keep [8,0,2] (F':=[(8,_),(0,_),(2,_)]) O).bool (by rw [hg1]; rfl))
  ·refine aH hF O O O O (aj hg1) ae _ (aS O O) (fun a hF=>?_)
   refine aH hF O O O O (aj hg1) ae _ (ax O O O O O) (fun a hF=>?_)
   refine vR hF<|vV O (aZ hg1 rfl rfl rfl) fun a hF=>?_
   exact hJ1 _ ((hF.keep [8,0,2] (F':=[(8,_),(0,_),(2,_)]) O).bool (by rw [hg1]; rfl))
 refine vR hF<|vX O<|vE hK2 fun a hF=>?_
 apply wp_ret
 refine aK hF Tryz.results154 O ?_
 exact ⟨rfl,rfl⟩
structure VA where
 v:Val
 sA:Option Addr
 sC:Nat
abbrev VA.cells (a:VA):List Value:=a.v.cells (.slice a.sA a.v.s.length a.sC)
structure VA.Ok (w0:World) (G:List Seg) (a:VA):Prop where
 rc:Rc w0 G a.sA (a.v.s.map ak)
 n:a.v.s.length≤9223372036854775807
 i:a.v.In
theorem VA.Ok.mono {w0:World} {G H:List Seg} {a:VA} (h:a.Ok w0 G) (hs:G⊆H):a.Ok w0 H:=⟨h.rc.mono hs,h.n,h.i⟩
def Val.Head (v:Val):Prop:=¬ ((v.k≠3∧v.t≠[])∨(v.k≠5∧v.s≠[]))
theorem sS {v:Val} {n:Int} (hn:n=(v.s.length:Nat)):((aI .neq v.k 3 && bn .neq v.t []) || (aI .neq v.k 5 && aI .gtr n 0))=true↔(v.k≠3∧v.t≠[])∨(v.k≠5∧v.s≠[]):=by
 subst hn
 simp [aI,bn,List.length_pos_iff]
theorem yu {v:Val} (h:((aI .neq v.k 3 && bn .neq v.t []) || (aI .neq v.k 5 && aI .gtr ((v.s.length:Nat):Int) 0))=true):v.formed=false:=by
 unfold Val.formed
 rw [if_pos ((sS rfl).1 h)]
theorem sW {v:Val} (h:((aI .neq v.k 3 && bn .neq v.t []) || (aI .neq v.k 5 && aI .gtr ((v.s.length:Nat):Int) 0))=false):v.Head:=fun hh=>by
 rw [(sS rfl).2 hh] at h
 exact absurd h ae
theorem tq {v:Val} (h:v.Head) (hk:v.k=1∨v.k=4):v.formed=true:=by
 unfold Val.formed
 rw [if_neg h,if_pos hk]
theorem Ai {v:Val} (h:v.Head) (hk:v.k=2):v.formed=((aI .eql v.n 0) || (aI .eql v.n 1)):=by
 unfold Val.formed
 rw [if_neg h,if_neg ag,if_pos hk]
 unfold aI
 rw [Bool.eq_iff_iff]
 simp
theorem tu {v:Val} (h:v.Head) (hk:v.k=0∨v.k=3):v.formed=aI .eql v.n 0:=by
 unfold Val.formed
 rw [if_neg h,if_neg ag,if_neg ag,if_pos hk]
 unfold aI
 rw [Bool.eq_iff_iff]
 simp
theorem sZ {v:Val} (h:v.Head) (hk:v.k=5):v.formed=(dD v.s v.s.length && aI .eql v.n 0):=by
 unfold Val.formed
 rw [if_neg h,if_neg ag,if_neg ag,if_neg ag,if_pos hk]
 unfold aI
 rw [Bool.eq_iff_iff]
 simp
theorem Ah {v:Val} (h:v.Head) (h1:¬ v.k=1) (h4:¬ v.k=4) (h2:¬ v.k=2) (h0:¬ v.k=0) (h3:¬ v.k=3) (h5:¬ v.k=5):v.formed=false:=by
 unfold Val.formed
 rw [if_neg h,if_neg ag,if_neg ag,if_neg ag,if_neg ag]
theorem kF (s:List (List UInt8)) (i:Nat) (hi:1≤i):dD s (i+1)=(dD s i && !bn .geq (s.getD (i-1) []) (s.getD i [])):=by
 obtain ⟨j,rfl⟩:∃ j,i=j+1:=⟨i-1,ag⟩
 rfl
theorem zx {s:List (List UInt8)} {i:Nat} {q0 q:List UInt8} (hi:1≤i) (h0:s[i-1]? = some q0) (h1:s[i]? = some q) (hr:dD s i=true) (hg:bn .geq q0 q=false):dD s (i+1)=true:=by
 rw [kF s i hi,hr,List.getD_eq_getElem?_getD,List.getD_eq_getElem?_getD,h0,h1]
 show (true && !bn .geq q0 q)=true
 rw [hg]; rfl
theorem o9 {s:List (List UInt8)} {i:Nat} (h:dD s i=false):∀ j,i≤j→1≤i→dD s j=false
 | 0,hj,hi=>by omega
 | j+1,hj,hi=>by
  rcases Nat.eq_or_lt_of_le hj with e | hlt
  ·rw [← e]; exact h
  ·rw [kF s j ag,o9 h j ag hi,Bool.false_and]
theorem zy {s:List (List UInt8)} {i:Nat} {q0 q:List UInt8} (hi:1≤i) (hl:i<s.length) (h0:s[i-1]? = some q0) (h1:s[i]? = some q) (hg:bn .geq q0 q=true):dD s s.length=false:=by
 refine o9 (i:=i+1) ?_ _ hl ag
 rw [kF s i hi,List.getD_eq_getElem?_getD,List.getD_eq_getElem?_getD,h0,h1]
 show (_ && !bn .geq q0 q)=false
 rw [hg,Bool.not_true,Bool.and_false]
theorem xM {s:List (List UInt8)} {i:Nat} (hi1:1≤i) (hi:i=1∨i≤s.length) (hl:¬ i<s.length) (hr:dD s i=true):dD s s.length=true:=by
 rcases Nat.eq_or_lt_of_le (Nat.le_of_not_lt hl) with e | h
 ·rw [e]; exact hr
 ·rw [show s.length=0 by omega]; rfl
set_option maxRecDepth 100000 in
set_option maxHeartbeats 2000000 in
theorem yB {w0:World} {R:List Seg} {G:List Seg} (va:VA) (w:World) (hV:va.Ok w0 G) (hG:G⊆R) (hA:Hp w0 R w):Calls Tryz.prog 153 #[.agg va.cells.toArray] w fun e w'=>e= .returned (.bool va.v.formed)∧Hp w0 R w':=by
 have hn:=hV.n
 refine aP Tryz.func153 O Tryz.ntmps153 ai (fun a hF=>?_)
 refine wp_seq_k fun K1 hK1=>wp_region_lit ?_
 refine aB O (fun K hK=>eU (cs:=[.int .i64 va.v.k,.int .i64 va.v.n,ak va.v.t,.slice va.sA va.v.s.length va.sC]) hF O ae rfl hA O (fun b1 w2 a hb1 hF hA3=>hK _ _ ?_))
 refine vR hF<|vX O<|vE hK1<|wQ fun K2 hK2=>wT fun K3 hK3=>vV O (yf 0 O H9 O gV O)<|vV O (aX O hA3.q O 0 O O gW)<|vV O (ax O O O O O)<|vX O fun a hF=>?_
 refine bF (l2:=?lA1) hF [(11,.bool ((aI .neq (va.v.k) (3)) && (bn .neq va.v.t []))),(0,.agg ([.int .i64 va.v.k,.int .i64 va.v.n,ak va.v.t,.slice va.sA va.v.s.length va.sC]).toArray),(1,.pointer (some ⟨b1,0,none⟩)),(2,.bool false)] (fun hJ1=>?elA1) (fun a hF=>?flA1)
 case elA1 =>
  rcases tf (aI .neq (va.v.k) (3)) with hg1 | hg1
  ·refine aF hF O O O O O (aG hg1) ae (fun a hF=>?_)
   refine aF hF O O O O O (aG hg1) ae (fun a hF=>?_)
   refine aF hF O O O O O (aG hg1) ae (fun a hF=>?_)
   refine vR hF<|vV O (aV hg1 rfl rfl rfl) fun a hF=>?_
   exact hJ1 _ ((hF.keep [11,0,1,2] (F':=[(11,_),(0,_),(1,_),(2,_)]) O).bool (by rw [hg1]; rfl))
  ·refine aH hF O O O O (aj hg1) ae _ (yf 2 O H9 O qi O) (fun a hF=>?_)
   refine aH hF O O O O (aj hg1) ae _ (aX O hA3.q O 0 O O qE) (fun a hF=>?_)
   refine aH hF O O O O (aj hg1) ae _ (fP O O O O O) (fun a hF=>?_)
   refine vR hF<|vV O (aZ hg1 rfl rfl rfl) fun a hF=>?_
   exact hJ1 _ ((hF.keep [11,0,1,2] (F':=[(11,_),(0,_),(1,_),(2,_)]) O).bool (by rw [hg1]; rfl))
 refine vR hF<|vX O fun a hF=>?_
 refine bF (l2:=?lA2) hF [(22,.bool (((aI .neq (va.v.k) (3)) && (bn .neq va.v.t [])) || ((aI .neq (va.v.k) (5)) && (aI .gtr (va.v.s.length) (0))))),(0,.agg ([.int .i64 va.v.k,.int .i64 va.v.n,ak va.v.t,.slice va.sA va.v.s.length va.sC]).toArray),(1,.pointer (some ⟨b1,0,none⟩)),(2,.bool false)] (fun hJ2=>?elA2) (fun a hF=>?flA2)
 case elA2 =>
  rcases tf ((aI .neq (va.v.k) (3)) && (bn .neq va.v.t [])) with hg2 | hg2
  ·refine aH hF O O O O (aj hg2) ae _ (yf 0 O H9 O gV O) (fun a hF=>?_)
   refine aH hF O O O O (aj hg2) ae _ (aX O hA3.q O 0 O O gW) (fun a hF=>?_)
   refine aH hF O O O O (aj hg2) ae _ (ax O O O O O) (fun a hF=>?_)
   refine aH hF O O O O (aj hg2) ae _ (aS O O) (fun a hF=>?_)
   refine bF (l2:=?lA3) hF [(21,.bool ((aI .neq (va.v.k) (5)) && (aI .gtr (va.v.s.length) (0)))),(0,.agg ([.int .i64 va.v.k,.int .i64 va.v.n,ak va.v.t,.slice va.sA va.v.s.length va.sC]).toArray),(1,.pointer (some ⟨b1,0,none⟩)),(2,.bool false),(12,.bool ((aI .neq (va.v.k) (3)) && (bn .neq va.v.t [])))] (fun hJ3=>?elA3) (fun a hF=>?flA3)
   case elA3 =>
    rcases tf (aI .neq (va.v.k) (5)) with hg3 | hg3
    ·refine aF hF O O O O O (aG hg3) ae (fun a hF=>?_)
     refine aF hF O O O O O (aG hg3) ae (fun a hF=>?_)
     refine aF hF O O O O O (aG hg3) ae (fun a hF=>?_)
     refine aF hF O O O O O (aG hg3) ae (fun a hF=>?_)
     refine aH hF O O O O (aj hg2) ae _ (aV hg3 rfl rfl rfl) (fun a hF=>?_)
     exact hJ3 _ ((hF.keep [21,0,1,2,12] (F':=[(21,_),(0,_),(1,_),(2,_),(12,_)]) O).bool (by rw [hg3]; rfl))
    ·refine aH hF O O O O (aj hg3) ae _ (yf 3 O H9 O jW O) (fun a hF=>?_)
     refine aH hF O O O O (aj hg3) ae _ (aX O hA3.q O 0 O O jY) (fun a hF=>?_)
     refine aH hF O O O O (aj hg3) ae _ (aU O Ia O O) (fun a hF=>?_)
     refine aH hF O O O O (aj hg3) ae _ (ax O O O O O) (fun a hF=>?_)
     refine aH hF O O O O (aj hg2) ae _ (aZ hg3 rfl rfl rfl) (fun a hF=>?_)
     exact hJ3 _ ((hF.keep [21,0,1,2,12] (F':=[(21,_),(0,_),(1,_),(2,_),(12,_)]) O).bool (by rw [hg3]; rfl))
   refine vR hF<|vV O (aV hg2 rfl rfl rfl) fun a hF=>?_
   exact hJ2 _ ((hF.keep [22,0,1,2] (F':=[(22,_),(0,_),(1,_),(2,_)]) O).bool (by rw [hg2]; rfl))
  ·refine aF hF O O O O O (aG hg2) ae (fun a hF=>?_)
   refine aF hF O O O O O (aG hg2) ae (fun a hF=>?_)
   refine aF hF O O O O O (aG hg2) ae (fun a hF=>?_)
   refine aF hF O O O O O (aG hg2) ae (fun a hF=>?_)
   refine aW hF O O O O O ae (fun a hF=>?_)
   refine aW hF O O O O O ae (fun a hF=>?_)
   refine aW hF O O O O O ae (fun a hF=>?_)
   refine aW hF O O O O O ae (fun a hF=>?_)
   refine aF hF O O O O O (aG hg2) ae (fun a hF=>?_)
   refine vR hF<|vV O (aZ hg2 rfl rfl rfl) fun a hF=>?_
   exact hJ2 _ ((hF.keep [22,0,1,2] (F':=[(22,_),(0,_),(1,_),(2,_)]) O).bool (by rw [hg2]; rfl))
 refine aN<|hK3 _ _ ?_
 rcases tf (((aI .neq (va.v.k) (3)) && (bn .neq va.v.t [])) || ((aI .neq (va.v.k) (5)) && (aI .gtr (va.v.s.length) (0)))) with hs | hs
 ·refine au hF O hs ?_
  have hh:=sW hs
  by_cases hk1:va.v.k=1
  ·apply wp_skip
   refine hK2 _ _ ?_
   apply wp_seq_k; intro K4 hK4
   refine wS hF fun K5 hK5=>vV O (yf 0 O H9 O gV O)<|vV O (aX O hA3.q O 0 O O gW)<|vE hK5<|wBk<|wQ fun K6 hK6=>wT fun K7 hK7=>vV O (ax O O O O O)<|vX O<|vE hK7 fun a hF=>?_
   refine az hF O (dJ ag) ?_
   apply wp_skip
   refine hK6 _ _ ?_
   refine az hF O (dJ ag) ?_
   refine wS hF fun K8 hK8=>vX O<|vE hK8 fun a hF=>?_
   apply wp_ret
   simp only [Exit.then,Exit.inBlock]
   refine aK hF Tryz.results153 O ?_
   have hA4:Hp w0 (R) w2:=hpS 1 [] [0] hA3 rfl
   exact ⟨by rw [tq hh (.inl hk1)],hA4⟩
  ·by_cases hk4:va.v.k=4
   ·apply wp_skip
    refine hK2 _ _ ?_
    apply wp_seq_k; intro K9 hK9
    refine wS hF fun K10 hK10=>vV O (yf 0 O H9 O gV O)<|vV O (aX O hA3.q O 0 O O gW)<|vE hK10<|wBk<|wQ fun K11 hK11=>wT fun K12 hK12=>vV O (ax O O O O O)<|vX O<|vE hK12 fun a hF=>?_
    refine au hF O (bg ag) ?_
    refine wp_region_lit ?_
    refine vR hF<|vV O (ax O O O O O)<|vX O<|vE hK11 fun a hF=>?_
    refine az hF O (dJ ag) ?_
    refine wS hF fun K13 hK13=>vX O<|vE hK13 fun a hF=>?_
    apply wp_ret
    simp only [Exit.then,Exit.inBlock]
    refine aK hF Tryz.results153 O ?_
    have hA5:Hp w0 (R) w2:=hpS 1 [] [0] hA3 rfl
    exact ⟨by rw [tq hh (.inr hk4)],hA5⟩
   ·by_cases hk2:va.v.k=2
    ·apply wp_skip
     refine hK2 _ _ ?_
     apply wp_seq_k; intro K14 hK14
     refine wS hF fun K15 hK15=>vV O (yf 0 O H9 O gV O)<|vV O (aX O hA3.q O 0 O O gW)<|vE hK15<|wBk<|wQ fun K16 hK16=>wT fun K17 hK17=>vV O (ax O O O O O)<|vX O<|vE hK17 fun a hF=>?_
     refine au hF O (bg ag) ?_
     refine wp_region_lit ?_
     refine vR hF<|vV O (ax O O O O O)<|vX O<|vE hK16 fun a hF=>?_
     refine au hF O (bg ag) ?_
     refine wS hF fun K18 hK18=>vV O (ax O O O O O)<|vX O<|vE hK18 fun a hF=>?_
     refine az hF O (dJ ag) ?_
     refine wS hF fun K19 hK19=>vV O (yf 1 O H9 O gu O)<|vV O (aX O hA3.q O 0 O O jK)<|vV O (ax O O O O O)<|vX O fun a hF=>?_
     refine bF (l2:=?lA4) hF [(37,.bool ((aI .eql (va.v.n) (0)) || (aI .eql (va.v.n) (1)))),(0,.agg ([.int .i64 va.v.k,.int .i64 va.v.n,ak va.v.t,.slice va.sA va.v.s.length va.sC]).toArray),(1,.pointer (some ⟨b1,0,none⟩)),(2,.bool false),(22,.bool (((aI .neq (va.v.k) (3)) && (bn .neq va.v.t [])) || ((aI .neq (va.v.k) (5)) && (aI .gtr (va.v.s.length) (0))))),(23,.pointer (some ⟨b1,0,none⟩)),(24,.int .i64 va.v.k),(26,.bool (aI .eql (va.v.k) (1))),(25,.bool (aI .eql (va.v.k) (4))),(27,.bool (aI .eql (va.v.k) (4))),(29,.bool (aI .eql (va.v.k) (2))),(28,.bool (aI .eql (va.v.k) (2)))] (fun hJ4=>?elA4) (fun a hF=>?flA4)
     case elA4 =>
      rcases tf (aI .eql (va.v.n) (0)) with hg4 | hg4
      ·refine aH hF O O O O (aj hg4) ae _ (yf 1 O H9 O gu O) (fun a hF=>?_)
       refine aH hF O O O O (aj hg4) ae _ (aX O hA3.q O 0 O O jK) (fun a hF=>?_)
       refine aH hF O O O O (aj hg4) ae _ (ax O O O O O) (fun a hF=>?_)
       refine vR hF<|vV O (aV hg4 rfl rfl rfl) fun a hF=>?_
       exact hJ4 _ ((hF.keep [37,0,1,2,22,23,24,26,25,27,29,28] (F':=[(37,_),(0,_),(1,_),(2,_),(22,_),(23,_),(24,_),(26,_),(25,_),(27,_),(29,_),(28,_)]) O).bool (by rw [hg4]; rfl))
      ·refine aF hF O O O O O (aG hg4) ae (fun a hF=>?_)
       refine aF hF O O O O O (aG hg4) ae (fun a hF=>?_)
       refine aF hF O O O O O (aG hg4) ae (fun a hF=>?_)
       refine vR hF<|vV O (aZ hg4 rfl rfl rfl) fun a hF=>?_
       exact hJ4 _ ((hF.keep [37,0,1,2,22,23,24,26,25,27,29,28] (F':=[(37,_),(0,_),(1,_),(2,_),(22,_),(23,_),(24,_),(26,_),(25,_),(27,_),(29,_),(28,_)]) O).bool (by rw [hg4]; rfl))
     refine vR hF<|vX O<|vE hK19 fun a hF=>?_
     apply wp_ret
     simp only [Exit.then,Exit.inBlock]
     refine aK hF Tryz.results153 O ?_
     have hA6:Hp w0 (R) w2:=hpS 1 [] [0] hA3 rfl
     exact ⟨by rw [Ai hh hk2],hA6⟩
    ·by_cases hk0:va.v.k=0
     ·apply wp_skip
      refine hK2 _ _ ?_
      apply wp_seq_k; intro K20 hK20
      refine wS hF fun K21 hK21=>vV O (yf 0 O H9 O gV O)<|vV O (aX O hA3.q O 0 O O gW)<|vE hK21<|wBk<|wQ fun K22 hK22=>wT fun K23 hK23=>vV O (ax O O O O O)<|vX O<|vE hK23 fun a hF=>?_
      refine au hF O (bg ag) ?_
      refine wp_region_lit ?_
      refine vR hF<|vV O (ax O O O O O)<|vX O<|vE hK22 fun a hF=>?_
      refine au hF O (bg ag) ?_
      refine wS hF fun K24 hK24=>vV O (ax O O O O O)<|vX O<|vE hK24 fun a hF=>?_
      refine au hF O (bg ag) ?_
      apply wp_seq_k; intro K25 hK25
      refine wS hF fun K26 hK26=>vV O (ax O O O O O)<|vX O<|vE hK26 fun a hF=>?_
      refine az hF O (dJ ag) ?_
      apply wp_skip
      refine hK25 _ _ ?_
      refine az hF O (dJ ag) ?_
      refine wS hF fun K27 hK27=>vV O (yf 1 O H9 O gu O)<|vV O (aX O hA3.q O 0 O O jK)<|vV O (ax O O O O O)<|vX O<|vE hK27 fun a hF=>?_
      apply wp_ret
      simp only [Exit.then,Exit.inBlock]
      refine aK hF Tryz.results153 O ?_
      have hA7:Hp w0 (R) w2:=hpS 1 [] [0] hA3 rfl
      exact ⟨by rw [tu hh (.inl hk0)],hA7⟩
     ·by_cases hk3:va.v.k=3
      ·apply wp_skip
       refine hK2 _ _ ?_
       apply wp_seq_k; intro K28 hK28
       refine wS hF fun K29 hK29=>vV O (yf 0 O H9 O gV O)<|vV O (aX O hA3.q O 0 O O gW)<|vE hK29<|wBk<|wQ fun K30 hK30=>wT fun K31 hK31=>vV O (ax O O O O O)<|vX O<|vE hK31 fun a hF=>?_
       refine au hF O (bg ag) ?_
       refine wp_region_lit ?_
       refine vR hF<|vV O (ax O O O O O)<|vX O<|vE hK30 fun a hF=>?_
       refine au hF O (bg ag) ?_
       refine wS hF fun K32 hK32=>vV O (ax O O O O O)<|vX O<|vE hK32 fun a hF=>?_
       refine au hF O (bg ag) ?_
       apply wp_seq_k; intro K33 hK33
       refine wS hF fun K34 hK34=>vV O (ax O O O O O)<|vX O<|vE hK34 fun a hF=>?_
       refine au hF O (bg ag) ?_
       refine wp_region_lit ?_
       refine vR hF<|vV O (ax O O O O O)<|vX O<|vE hK33 fun a hF=>?_
       refine az hF O (dJ ag) ?_
       refine wS hF fun K35 hK35=>vV O (yf 1 O H9 O gu O)<|vV O (aX O hA3.q O 0 O O jK)<|vV O (ax O O O O O)<|vX O<|vE hK35 fun a hF=>?_
       apply wp_ret
       simp only [Exit.then,Exit.inBlock]
       refine aK hF Tryz.results153 O ?_
       have hA8:Hp w0 (R) w2:=hpS 1 [] [0] hA3 rfl
       exact ⟨by rw [tu hh (.inr hk3)],hA8⟩
      ·by_cases hk5:va.v.k=5
       ·apply wp_skip
        refine hK2 _ _ ?_
        apply wp_seq_k; intro K36 hK36
        refine wS hF fun K37 hK37=>vV O (yf 0 O H9 O gV O)<|vV O (aX O hA3.q O 0 O O gW)<|vE hK37<|wBk<|wQ fun K38 hK38=>wT fun K39 hK39=>vV O (ax O O O O O)<|vX O<|vE hK39 fun a hF=>?_
        refine au hF O (bg ag) ?_
        refine wp_region_lit ?_
        refine vR hF<|vV O (ax O O O O O)<|vX O<|vE hK38 fun a hF=>?_
        refine au hF O (bg ag) ?_
        refine wS hF fun K40 hK40=>vV O (ax O O O O O)<|vX O<|vE hK40 fun a hF=>?_
        refine au hF O (bg ag) ?_
        apply wp_seq_k; intro K41 hK41
        refine wS hF fun K42 hK42=>vV O (ax O O O O O)<|vX O<|vE hK42 fun a hF=>?_
        refine au hF O (bg ag) ?_
        refine wp_region_lit ?_
        refine vR hF<|vV O (ax O O O O O)<|vX O<|vE hK41 fun a hF=>?_
        refine au hF O (bg ag) ?_
        refine wS hF fun K43 hK43=>vV O (ax O O O O O)<|vX O<|vE hK43 fun a hF=>?_
        refine az hF O (dJ ag) ?_
        apply wp_seq_k; intro K44 hK44
        refine wS hF fun K45 hK45=>vX O<|vE hK45<|wBk fun a hF=>?_
        refine bM (G:=Nat) (fun i a x=>1≤i∧(i=1∨i≤va.v.s.length)∧dD va.v.s i=true∧Fr 68 [(3,.int .i64 (i:Int)),(1,.pointer (some ⟨b1,0,none⟩))] a∧Hp w0 ([row b1 25 [.int .i64 va.v.k,.int .i64 va.v.n,ak va.v.t,.slice va.sA va.v.s.length va.sC]]::R) x) (fun i=>va.v.s.length-i) 1 (⟨Ib _,.inl rfl,rfl,hF.keep [3,1] rfl,hA3⟩) ?_
        clear hF
        rintro i a w10 ⟨hi1,hi,hr,hF,hA9⟩
        apply wp_seq_k; intro K46 hK46
        refine wS hF fun K47 hK47=>vX O<|vV O (yf 3 O H9 O jW O)<|vV O (aX O hA9.q O 0 O O jY)<|vV O (aU O Ia O O)<|vV O (ax O O O O O)<|vE hK47 fun a hF=>?_
        by_cases hlt:i<va.v.s.length
        ·refine az hF O (eG ag) ?_
         obtain ⟨q,hp⟩:∃ q,va.v.s[i]? = some q:=⟨_,List.getElem?_eq_getElem hlt⟩
         obtain ⟨q0,hp0⟩:∃ q,va.v.s[i-1]? = some q:=⟨_,List.getElem?_eq_getElem ag⟩
         obtain ⟨b,o,hsA,hc⟩:=hV.rc.ne (i:=i) (by rw [List.length_map]; exact hlt)
         rw [hsA] at hA9
         apply wp_skip
         refine hK46 _ _ ?_
         apply wp_seq_k; intro K48 hK48
         apply wp_block
         apply wp_seq_k; intro K49 hK49
         refine bi 11 [11] [0,1,2,3,4,5,6,7,8,9,10,11] _ af af (Hq.drew hA9.q) ?_
         have hA11:=Hl.drew hA9
         refine pR hF<|pW O O (fun _=>yf 3 O H9 O jW O)<|pV O O (fun x hx=>aX O hx O 0 O O jY)<|pX O O<|pW O O (fun _=>dL O O O (Hz _ ag))<|pW O O (fun _=>bD O Ia qi O O (i-1) ag ag (ad2 _ _ _))<|pV O O (fun x hx=>dG (u:=ak q0) rfl (Hq.sub hx (List.Subset.trans hG ((bT (gK))))) O hc (i-1) (by rw [List.length_map]; omega) rfl (by rw [List.getElem?_map,hp0]; rfl) qE) fun a hF=>?_
         refine pR hF<|pW O O (fun _=>yf 3 O H9 O jW O)<|pV O O (fun x hx=>aX O hx O 0 O O jY)<|pX O O<|pW O O (fun _=>bD O Ia qi O O i rfl ag (ad2 _ _ _))<|pV O O (fun x hx=>dG (u:=ak q) rfl (Hq.sub hx (List.Subset.trans hG ((bT (gK))))) O hc i (by rw [List.length_map]; omega) rfl (by rw [List.getElem?_map,hp]; rfl) qE) fun a hF=>?_
         refine fF hF O O O O ae _ (fP O O O O O) (fun h=>absurd h ae) (fun a hF=>?_)
         refine df ?_
         refine hK49 _ _ ?_
         rcases tf (bn .geq q0 q) with hge | hge
         ·refine au hF O hge ?_
          apply wp_skip
          refine hK48 _ _ ?_
          refine wp_region_lit ?_
          refine vR hF<|vX O<|vV O (bQ O O O (Hz _ ag))<|vX O fun a hF=>?_
          refine aN ?_
          rw [← hsA] at hA11
          exact ⟨i+1,ag,ag,.inr ag,zx hi1 hp0 hp hr hge,hF.keep [3,1] rfl,hA11⟩
         ·refine az hF O hge ?_
          refine wS hF fun K50 hK50=>vX O<|vE hK50 fun a hF=>?_
          apply wp_ret
          simp only [Exit.then,Exit.inBlock]
          refine aK hF Tryz.results153 O ?_
          have hA12:Hp w0 (R) w10.drew:=hpS 1 [] [0] hA11 rfl
          exact ⟨by rw [sZ hh hk5,zy hi1 hlt hp0 hp hge,Bool.false_and],hA12⟩
        ·refine au hF O (dU ag) ?_
         apply wp_exit
         refine hK44 _ _ ?_
         refine wS hF fun K51 hK51=>vV O (yf 1 O H9 O gu O)<|vV O (aX O hA9.q O 0 O O jK)<|vV O (ax O O O O O)<|vX O<|vE hK51 fun a hF=>?_
         apply wp_ret
         simp only [Exit.then,Exit.inBlock]
         refine aK hF Tryz.results153 O ?_
         have hA13:Hp w0 (R) w10:=hpS 1 [] [0] hA9 rfl
         exact ⟨by rw [sZ hh hk5,xM hi1 hi hlt hr,Bool.true_and],hA13⟩
       ·apply wp_skip
        refine hK2 _ _ ?_
        apply wp_seq_k; intro K52 hK52
        refine wS hF fun K53 hK53=>vV O (yf 0 O H9 O gV O)<|vV O (aX O hA3.q O 0 O O gW)<|vE hK53<|wBk<|wQ fun K54 hK54=>wT fun K55 hK55=>vV O (ax O O O O O)<|vX O<|vE hK55 fun a hF=>?_
        refine au hF O (bg ag) ?_
        refine wp_region_lit ?_
        refine vR hF<|vV O (ax O O O O O)<|vX O<|vE hK54 fun a hF=>?_
        refine au hF O (bg ag) ?_
        refine wS hF fun K56 hK56=>vV O (ax O O O O O)<|vX O<|vE hK56 fun a hF=>?_
        refine au hF O (bg ag) ?_
        apply wp_seq_k; intro K57 hK57
        refine wS hF fun K58 hK58=>vV O (ax O O O O O)<|vX O<|vE hK58 fun a hF=>?_
        refine au hF O (bg ag) ?_
        refine wp_region_lit ?_
        refine vR hF<|vV O (ax O O O O O)<|vX O<|vE hK57 fun a hF=>?_
        refine au hF O (bg ag) ?_
        refine wS hF fun K59 hK59=>vV O (ax O O O O O)<|vX O<|vE hK59 fun a hF=>?_
        refine au hF O (bg ag) ?_
        apply wp_skip
        refine hK52 _ _ ?_
        refine wS hF fun K60 hK60=>vX O<|vE hK60 fun a hF=>?_
        apply wp_ret
        refine aK hF Tryz.results153 O ?_
        have hA14:Hp w0 (R) w2:=hpS 1 [] [0] hA3 rfl
        exact ⟨by rw [Ah hh hk1 hk4 hk2 hk0 hk3 hk5],hA14⟩
 ·refine az hF O hs ?_
  refine wS hF fun K61 hK61=>vX O<|vE hK61 fun a hF=>?_
  apply wp_ret
  simp only [Exit.then]
  refine aK hF Tryz.results153 O ?_
  have hA15:Hp w0 (R) w2:=hpS 1 [] [0] hA3 rfl
  exact ⟨by rw [yu hs],hA15⟩
theorem zU (s:List UInt8):aI .gtr ((s.length:Nat):Int) 1024=gI s:=by
 unfold aI gI
 rw [Bool.eq_iff_iff]
 simp only [decide_eq_true_eq]
 omega
set_option maxRecDepth 100000 in
set_option maxHeartbeats 2000000 in
theorem DJ (s:List UInt8) (w:World):Calls Tryz.prog 156 #[ak s] w fun e w'=>e= .returned (.bool (gI s))∧w=w':=by
 refine aP Tryz.func156 O Tryz.ntmps156 ai (fun a hF=>?_)
 refine wS hF fun K1 hK1=>vX O<|vE hK1<|wT fun K2 hK2=>vX O<|vV O (eH (z:=(s.length:Nat)) O H7 O O)<|vV O (ax O O O O O)<|vX O<|vE hK2 fun a hF=>?_
 apply wp_ret
 refine aK hF Tryz.results156 O ?_
 exact ⟨by rw [zU],rfl⟩
theorem BP {s:List (List UInt8)} {i:Nat} {q:List UInt8} {p:List UInt8→Bool} (hb:s[i]? = some q) (h:(s.take i).any p=false) (hp:p q=false):(s.take (i+1)).any p=false:=by
 rw [List.take_add_one,hb,List.any_append,h]
 simp [hp]
set_option maxRecDepth 100000 in
set_option maxHeartbeats 2000000 in
theorem Aw {w0:World} {R:List Seg} {G:List Seg} (va:VA) (w:World) (hV:va.Ok w0 G) (hG:G⊆R) (hA:Hp w0 R w):Calls Tryz.prog 192 #[.slice va.sA va.v.s.length va.sC,.func (.func 156) #[] #[]] w fun e w'=>∃ z:Int,e= .returned (.int .i64 z)∧decide (0≤z)=va.v.s.any gI∧w=w':=by
 have hn:=hV.n
 refine aP Tryz.func192 O Tryz.ntmps192 ai (fun a hF=>?_)
 refine wS hF fun K1 hK1=>vX O<|vE hK1<|wQ fun K2 hK2=>wT fun K3 hK3=>vX O<|vV O (aU O Ia O O)<|vX O<|vE hK3<|wBk fun a hF=>?_
 refine bM (G:=Nat) (fun i a x=>i≤va.v.s.length∧(va.v.s.take i).any gI=false∧w=x∧Fr 19 [(8,.int .i64 (i:Int)),(0,.slice va.sA va.v.s.length va.sC),(1,.func (.func 156) #[] #[]),(7,.int .i64 va.v.s.length)] a∧Hp w0 (R) x) (fun i=>va.v.s.length-i) 0 (⟨Hy _,rfl,rfl,hF.keep [8,0,1,7] rfl,hA⟩) ?_
 clear hF
 rintro i a w2 ⟨hi,hall,hww,hF,hA1⟩
 refine wS hF fun K4 hK4=>vV O (ax O O O O O)<|vE hK4<|wQ fun K5 hK5 a hF=>?_
 by_cases hlt:i<va.v.s.length
 ·refine az hF O (eG ag) ?_
  obtain ⟨q,hp⟩:∃ q,va.v.s[i]? = some q:=⟨_,List.getElem?_eq_getElem hlt⟩
  obtain ⟨b,o,hsA,hc⟩:=hV.rc.ne (i:=i) (by rw [List.length_map]; exact hlt)
  rw [hsA] at hF
  apply wp_skip
  refine hK5 _ _ ?_
  apply wp_seq_k; intro K6 hK6
  apply wp_block
  refine wS hF fun K7 hK7=>vX O<|vX O<|vE hK7<|wT fun K8 hK8=>vX O<|vX O<|vX O<|vV O (bD O Ia qi O O i rfl ag (ad2 _ _ _))<|vV O (dG (u:=ak q) rfl (Hq.sub hA1.q (List.Subset.trans hG ((gK)))) O hc i (by rw [List.length_map]; omega) rfl (by rw [List.getElem?_map,hp]; rfl) qE) fun a hF=>?_
  refine aB O (fun K hK=>yQ hF O ae Bc rfl rfl rfl ?_)
  with_reducible refine (DJ q _).mono ?_
  rintro e' w5 ⟨rfl,rfl⟩
  refine ⟨_,rfl,fun a hF=>hK _ _ ?_⟩
  refine aN<|hK8 _ _ ?_
  rcases tf (gI q) with hw | hw
  ·refine au hF O hw ?_
   apply wp_skip
   refine hK6 _ _ ?_
   refine wp_region_lit ?_
   refine vR hF<|vV O (bQ O O O (Hz _ ag))<|vX O fun a hF=>?_
   refine aN ?_
   rw [← hsA] at hF
   exact ⟨i+1,ag,ag,BP hp hall hw,hww,hF.keep [8,0,1,7] rfl,hA1⟩
  ·refine az hF O hw ?_
   refine wS hF fun K9 hK9=>vX O<|vX O<|vE hK9 fun a hF=>?_
   apply wp_ret
   simp only [Exit.then,Exit.inBlock]
   refine aK hF Tryz.results192 O ?_
   exact ⟨_,rfl,by rw [show va.v.s.any gI=true from List.any_eq_true.2 ⟨q,List.mem_of_getElem? hp,hw⟩]; simp,hww⟩
 ·refine au hF O (dU ag) ?_
  obtain rfl:i=va.v.s.length:=by omega
  rw [List.take_length] at hall
  apply wp_exit
  refine hK2 _ _ ?_
  refine wS hF fun K10 hK10=>vX O<|vE hK10 fun a hF=>?_
  apply wp_ret
  refine aK hF Tryz.results192 O ?_
  exact ⟨_,rfl,by rw [hall]; decide,hww⟩
set_option maxRecDepth 100000 in
set_option maxHeartbeats 2000000 in
theorem tZ {w0:World} {R:List Seg} {G:List Seg} (va:VA) (w:World) (hV:va.Ok w0 G) (hG:G⊆R) (hA:Hp w0 R w):Calls Tryz.prog 155 #[.slice va.sA va.v.s.length va.sC,.func (.func 156) #[] #[]] w fun e w'=>e= .returned (.bool (va.v.s.any gI))∧w=w':=by
 refine aP Tryz.func155 O Tryz.ntmps155 ai (fun a hF=>?_)
 refine wS hF fun K1 hK1=>vX O<|vE hK1<|wT fun K2 hK2=>vX O<|vX O fun a hF=>?_
 refine aB O (fun K hK=>ay hF O ae A7 rfl rfl ?_)
 with_reducible refine (Aw va _ hV hG hA).mono ?_
 rintro e' w3 ⟨z,rfl,hz,rfl⟩
 refine ⟨_,rfl,fun a hF=>hK _ _ ?_⟩
 refine vR hF<|vV O (ax O O O O O)<|vX O<|vE hK2 fun a hF=>?_
 apply wp_ret
 refine aK hF Tryz.results155 O ?_
 exact ⟨by rw [← hz]; rfl,rfl⟩
theorem right_c1 {v:Val}:(aI .eql v.k 4 && !(aI .geq v.n 0 && aI .leq v.n 4611686018427387904))=true↔v.k=4∧¬ (0≤v.n∧v.n≤4611686018427387904):=by
 unfold aI
 simp only [Bool.and_eq_true,Bool.not_eq_true',Bool.and_eq_false_iff,decide_eq_true_eq,decide_eq_false_iff_not,beq_iff_eq]
 omega
theorem right_c2 {v:Val}:(aI .gtr ((v.t.length:Nat):Int) 1024 || v.s.any gI)=true↔1024<v.t.length∨v.s.any gI=true:=by
 rw [Bool.or_eq_true]
 refine or_congr ?_ Iff.rfl
 unfold aI
 simp only [decide_eq_true_eq]
 omega
theorem right_c3 {v:Val}:aI .gtr ((v.s.length:Nat):Int) 64=true↔64<v.s.length:=by
 unfold aI
 simp only [decide_eq_true_eq]
 omega
theorem CY {v:Val} (h0:(!(v.formed))=true):v.right=8:=by
 unfold Val.right
 rw [if_pos (by simpa using h0)]
theorem CX {v:Val} (h0:(!(v.formed))=false) (h1:(aI .eql v.k 4 && !(aI .geq v.n 0 && aI .leq v.n 4611686018427387904))=true):v.right=111:=by
 unfold Val.right
 rw [if_neg (by simpa using h0),if_pos (right_c1.1 h1)]
theorem CW {v:Val} (h0:(!(v.formed))=false) (h1:(aI .eql v.k 4 && !(aI .geq v.n 0 && aI .leq v.n 4611686018427387904))=false) (h2:(aI .gtr ((v.t.length:Nat):Int) 1024 || v.s.any gI)=true):v.right=113:=by
 unfold Val.right
 rw [if_neg (by simpa using h0),if_neg (fun h=>by rw [right_c1.2 h] at h1; exact absurd h1 ae),if_pos (right_c2.1 h2)]
theorem CV {v:Val} (h0:(!(v.formed))=false) (h1:(aI .eql v.k 4 && !(aI .geq v.n 0 && aI .leq v.n 4611686018427387904))=false) (h2:(aI .gtr ((v.t.length:Nat):Int) 1024 || v.s.any gI)=false) (h3:aI .gtr ((v.s.length:Nat):Int) 64=true):v.right=114:=by
 unfold Val.right
 rw [if_neg (by simpa using h0),if_neg (fun h=>by rw [right_c1.2 h] at h1; exact absurd h1 ae),if_neg (fun h=>by rw [right_c2.2 h] at h2; exact absurd h2 ae),if_pos (right_c3.1 h3)]
theorem zA {v:Val} (h0:(!(v.formed))=false) (h1:(aI .eql v.k 4 && !(aI .geq v.n 0 && aI .leq v.n 4611686018427387904))=false) (h2:(aI .gtr ((v.t.length:Nat):Int) 1024 || v.s.any gI)=false) (h3:aI .gtr ((v.s.length:Nat):Int) 64=false):v.right=0:=by
 unfold Val.right
 rw [if_neg (by simpa using h0),if_neg (fun h=>by rw [right_c1.2 h] at h1; exact absurd h1 ae),if_neg (fun h=>by rw [right_c2.2 h] at h2; exact absurd h2 ae),if_neg (fun h=>by rw [right_c3.2 h] at h3; exact absurd h3 ae)]
set_option maxRecDepth 100000 in
set_option maxHeartbeats 2000000 in
theorem nY {w0:World} {R:List Seg} {G:List Seg} (va:VA) (w:World) (hV:va.Ok w0 G) (hG:G⊆R) (hA:Hp w0 R w):Calls Tryz.prog 101 #[.agg va.cells.toArray] w fun e w'=>e= .returned (.int .i64 (va.v.right:Nat))∧Hp w0 R w':=by
 have hn:=hV.n
 refine aP Tryz.func101 O Tryz.ntmps101 ai (fun a hF=>?_)
 refine wp_seq_k fun K1 hK1=>wp_region_lit ?_
 refine aB O (fun K hK=>eU (cs:=[.int .i64 va.v.k,.int .i64 va.v.n,ak va.v.t,.slice va.sA va.v.s.length va.sC]) hF O ae rfl hA O (fun b1 w2 a hb1 hF hA3=>hK _ _ ?_))
 refine vR hF<|vX O<|vE hK1<|wQ fun K2 hK2=>wBk<|wT fun K3 hK3=>vV O (bW (new:=[.int .i64 va.v.k,.int .i64 va.v.n,ak va.v.t,.slice va.sA va.v.s.length va.sC]) O hA3.q O 0 O CU ai rfl) fun a hF=>?_
 refine aB O (fun K hK=>ay hF O ae Bf rfl rfl ?_)
 with_reducible refine (yB va _ hV (List.Subset.trans hG (bT (gK))) hA3).mono ?_
 rintro e' w4 ⟨rfl,hA5⟩
 refine ⟨_,rfl,fun a hF=>hK _ _ ?_⟩
 replace hA5:Hp w0 ([row b1 25 [.int .i64 va.v.k,.int .i64 va.v.n,ak va.v.t,.slice va.sA va.v.s.length va.sC]]::R) w4:=hA5
 refine vR hF<|vV O (dM O O O)<|vX O<|vE hK3 fun a hF=>?_
 rcases tf (!va.v.formed) with hq0 | hq0
 ·refine au hF O hq0 ?_
  refine wS hF fun K4 hK4=>vV O (yf 0 O H9 O gV O)<|vV O (aX O hA5.q O 0 O O gW)<|vV O (ax O O O O O)<|vX O fun a hF=>?_
  refine bF (l2:=?lA1) hF [(16,.bool ((aI .eql (va.v.k) (4)) && (!(aI .geq va.v.n 0 && aI .leq va.v.n 4611686018427387904)))),(0,.agg ([.int .i64 va.v.k,.int .i64 va.v.n,ak va.v.t,.slice va.sA va.v.s.length va.sC]).toArray),(1,.pointer (some ⟨b1,0,none⟩)),(2,.int .i64 0),(4,.agg ([.int .i64 va.v.k,.int .i64 va.v.n,ak va.v.t,.slice va.sA va.v.s.length va.sC]).toArray),(5,.bool va.v.formed),(6,.bool (!va.v.formed)),(3,.bool (!va.v.formed))] (fun hJ1=>?elA1) (fun a hF=>?flA1)
  case elA1 =>
   rcases tf (aI .eql (va.v.k) (4)) with hg1 | hg1
   ·refine aF hF O O O O O (aG hg1) ae (fun a hF=>?_)
    refine aF hF O O O O O (aG hg1) ae (fun a hF=>?_)
    refine aF hF O O O O O (aG hg1) ae (fun a hF=>?_)
    refine aF hF O O O O O (aG hg1) ae (fun a hF=>?_)
    refine vR hF<|vV O (aV hg1 rfl rfl rfl) fun a hF=>?_
    exact hJ1 _ ((hF.keep [16,0,1,2,4,5,6,3] (F':=[(16,_),(0,_),(1,_),(2,_),(4,_),(5,_),(6,_),(3,_)]) O).bool (by rw [hg1]; rfl))
   ·refine aH hF O O O O (aj hg1) ae _ (yf 1 O H9 O gu O) (fun a hF=>?_)
    refine aH hF O O O O (aj hg1) ae _ (aX O hA5.q O 0 O O jK) (fun a hF=>?_)
    refine eF hF O O O (aj hg1) (fun K hK=>ay hF O ae Be rfl rfl ?_)
    with_reducible refine (yx va.v.n _).mono ?_
    rintro e' w8 ⟨rfl,rfl⟩
    refine ⟨_,rfl,fun a hF=>hK _ _ ?_⟩
    refine aH hF O O O O (aj hg1) ae _ (dM O O O) (fun a hF=>?_)
    refine vR hF<|vV O (aZ hg1 rfl rfl rfl) fun a hF=>?_
    exact hJ1 _ ((hF.keep [16,0,1,2,4,5,6,3] (F':=[(16,_),(0,_),(1,_),(2,_),(4,_),(5,_),(6,_),(3,_)]) O).bool (by rw [hg1]; rfl))
  refine vR hF<|vX O<|vE hK4 fun a hF=>?_
  rcases tf ((aI .eql (va.v.k) (4)) && (!(aI .geq va.v.n 0 && aI .leq va.v.n 4611686018427387904))) with hq1 | hq1
  ·refine au hF O hq1 ?_
   refine wS hF fun K5 hK5=>vV O (yf 2 O H9 O qi O)<|vV O (aX O hA5.q O 0 O O qE)<|vV O (eH (z:=(va.v.t.length:Nat)) O H7 O O)<|vV O (ax O O O O O)<|vX O fun a hF=>?_
   refine bF (l2:=?lA2) hF [(26,.bool ((aI .gtr ((va.v.t.length:Nat)) (1024)) || ((va.v.s.any gI)))),(0,.agg ([.int .i64 va.v.k,.int .i64 va.v.n,ak va.v.t,.slice va.sA va.v.s.length va.sC]).toArray),(1,.pointer (some ⟨b1,0,none⟩)),(2,.int .i64 0),(4,.agg ([.int .i64 va.v.k,.int .i64 va.v.n,ak va.v.t,.slice va.sA va.v.s.length va.sC]).toArray),(5,.bool va.v.formed),(6,.bool (!va.v.formed)),(3,.bool (!va.v.formed)),(16,.bool ((aI .eql (va.v.k) (4)) && (!(aI .geq va.v.n 0 && aI .leq va.v.n 4611686018427387904)))),(7,.bool ((aI .eql (va.v.k) (4)) && (!(aI .geq va.v.n 0 && aI .leq va.v.n 4611686018427387904))))] (fun hJ2=>?elA2) (fun a hF=>?flA2)
   case elA2 =>
    rcases tf (aI .gtr ((va.v.t.length:Nat)) (1024)) with hg2 | hg2
    ·refine aH hF O O O O (aj hg2) ae _ (yf 3 O H9 O jW O) (fun a hF=>?_)
     refine aH hF O O O O (aj hg2) ae _ (aX O hA5.q O 0 O O jY) (fun a hF=>?_)
     refine eF hF O O O (aj hg2) (fun K hK=>ay hF O ae Bd rfl rfl ?_)
     with_reducible refine (tZ va _ hV (List.Subset.trans hG (bT (gK))) hA5).mono ?_
     rintro e' w11 ⟨rfl,rfl⟩
     refine ⟨_,rfl,fun a hF=>hK _ _ ?_⟩
     refine vR hF<|vV O (aV hg2 rfl rfl rfl) fun a hF=>?_
     exact hJ2 _ ((hF.keep [26,0,1,2,4,5,6,3,16,7] (F':=[(26,_),(0,_),(1,_),(2,_),(4,_),(5,_),(6,_),(3,_),(16,_),(7,_)]) O).bool (by rw [hg2]; rfl))
    ·refine aF hF O O O O O (aG hg2) ae (fun a hF=>?_)
     refine aF hF O O O O O (aG hg2) ae (fun a hF=>?_)
     refine aF hF O O O O O (aG hg2) ae (fun a hF=>?_)
     refine vR hF<|vV O (aZ hg2 rfl rfl rfl) fun a hF=>?_
     exact hJ2 _ ((hF.keep [26,0,1,2,4,5,6,3,16,7] (F':=[(26,_),(0,_),(1,_),(2,_),(4,_),(5,_),(6,_),(3,_),(16,_),(7,_)]) O).bool (by rw [hg2]; rfl))
   refine vR hF<|vX O<|vE hK5 fun a hF=>?_
   rcases tf ((aI .gtr ((va.v.t.length:Nat)) (1024)) || ((va.v.s.any gI))) with hq2 | hq2
   ·refine au hF O hq2 ?_
    refine wS hF fun K6 hK6=>vV O (yf 3 O H9 O jW O)<|vV O (aX O hA5.q O 0 O O jY)<|vV O (aU O Ia O O)<|vV O (ax O O O O O)<|vX O<|vE hK6 fun a hF=>?_
    rcases tf (aI .gtr (va.v.s.length) (64)) with hq3 | hq3
    ·refine au hF O hq3 ?_
     apply wp_skip
     refine hK2 _ _ ?_
     refine wS hF fun K7 hK7=>vX O<|vE hK7 fun a hF=>?_
     apply wp_ret
     refine aK hF Tryz.results101 O ?_
     have hA12:Hp w0 (R) w4:=hpS 1 [] [0] hA5 rfl
     exact ⟨by rw [zA hq0 hq1 hq2 hq3]; rfl,hA12⟩
    ·refine az hF O hq3 ?_
     refine wS hF fun K8 hK8=>vX O<|vE hK8 fun a hF=>?_
     apply wp_ret
     simp only [Exit.then,Exit.inBlock]
     refine aK hF Tryz.results101 O ?_
     have hA13:Hp w0 (R) w4:=hpS 1 [] [0] hA5 rfl
     exact ⟨by rw [CV hq0 hq1 hq2 hq3]; rfl,hA13⟩
   ·refine az hF O hq2 ?_
    refine wS hF fun K9 hK9=>vX O<|vE hK9 fun a hF=>?_
    apply wp_ret
    simp only [Exit.then,Exit.inBlock]
    refine aK hF Tryz.results101 O ?_
    have hA14:Hp w0 (R) w4:=hpS 1 [] [0] hA5 rfl
    exact ⟨by rw [CW hq0 hq1 hq2]; rfl,hA14⟩
  ·refine az hF O hq1 ?_
   refine wS hF fun K10 hK10=>vX O<|vE hK10 fun a hF=>?_
   apply wp_ret
   simp only [Exit.then,Exit.inBlock]
   refine aK hF Tryz.results101 O ?_
   have hA15:Hp w0 (R) w4:=hpS 1 [] [0] hA5 rfl
   exact ⟨by rw [CX hq0 hq1]; rfl,hA15⟩
 ·refine az hF O hq0 ?_
  refine wS hF fun K11 hK11=>vX O<|vE hK11 fun a hF=>?_
  apply wp_ret
  simp only [Exit.then,Exit.inBlock]
  refine aK hF Tryz.results101 O ?_
  have hA16:Hp w0 (R) w4:=hpS 1 [] [0] hA5 rfl
  exact ⟨by rw [CY hq0]; rfl,hA16⟩
end Go.Proofs.YtepbmdlgdaedpaaGreatDoor
