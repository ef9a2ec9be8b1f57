/- Values: whether they are formed, what is wrong with them. -/
import Derived.Test.YtepbmdlgdaedpaaGreatDoorEv1
/- Values: whether they are formed, what is wrong with them. -/
namespace Go.Proofs.YtepbmdlgdaedpaaGreatDoor
open Go.RowKit Go.Dk
theorem ja:bi Tryz.prog 22=true:=af
theorem mi:bi Tryz.prog 23=true:=af
theorem Ho:isRow Tryz.prog 25 4=true:=af
theorem iZ:(Tryz.prog.info? 22).map (·.size)=some 1:=af
theorem mf:(Tryz.prog.info? 23).map (·.size)=some 1:=af
theorem FT:aK Tryz.prog 153:=⟨_,Tryz.func153,af,af⟩
theorem FQ:aK Tryz.prog 154:=⟨_,Tryz.func154,af,af⟩
theorem FP:aK Tryz.prog 155:=⟨_,Tryz.func155,af,af⟩
theorem FO:aK Tryz.prog 156:=⟨_,Tryz.func156,af,af⟩
theorem FI:aK Tryz.prog 192:=⟨_,Tryz.func192,af,af⟩
set_option maxRecDepth 100000 in
set_option maxHeartbeats 2000000 in
theorem CU (n:Int) (w:World):Calls Tryz.prog 154 #[.int .i64 n] w fun e w'=>e= .returned (.bool (aI .geq n 0 && aI .leq n 4611686018427387904))∧w=w':=by
 refine aP Tryz.func154 O Tryz.ntmps154 ai (fun a hF=>?_)
 refine wS hF fun K1 hK1=>vX O<|vE hK1<|wT fun K2 hK2=>vX O<|vV O (aF O O O O O)<|vX O fun a hF=>?_
 refine bK (l2:=?lA1) hF [(8,.bool ((aI .geq (n) (0)) && (aI .leq (n) (4611686018427387904)))),(0,.int .i64 n),(2,.bool false)] (fun hJ1=>?elA1) (fun a hF=>?flA1)
 case elA1 =>
  rcases tf (aI .geq (n) (0)) with hg1 | hg1
  ·refine az hF O O O O O (aB hg1) ae (fun a hF=>?_)
   refine az hF O O O O O (aB hg1) ae (fun a hF=>?_)
   refine vR hF<|vV O (bu hg1 rfl rfl rfl) fun a hF=>?_
   exact hJ1 _ ((hF.keep [8,0,2] (F':=[(8,_),(0,_),(2,_)]) O).bool (by rw [hg1]; rfl))
  ·refine aJ hF O O O O (ak hg1) ae _ (aV O O) (fun a hF=>?_)
   refine aJ hF O O O O (ak hg1) ae _ (aF O O O O O) (fun a hF=>?_)
   refine vR hF<|vV O (bF hg1 rfl rfl rfl) fun a hF=>?_
   exact hJ1 _ ((hF.keep [8,0,2] (F':=[(8,_),(0,_),(2,_)]) O).bool (by rw [hg1]; rfl))
 refine vR hF<|vX O<|vE hK2 fun a hF=>?_
 apply wp_ret
 refine aO hF Tryz.results154 O ?_
 exact ⟨rfl,rfl⟩
structure VA where
 v:Val
 sA:Option Addr
 sC:Nat
abbrev VA.cells (a:VA):List Value:=a.v.cells (.slice a.sA a.v.s.length a.sC)
structure VA.Ok (w0:World) (G:List Seg) (a:VA):Prop where
 rc:Rc w0 G a.sA (a.v.s.map aj)
 n:a.v.s.length≤9223372036854775807
 i:a.v.In
theorem VA.Ok.mono {w0:World} {G H:List Seg} {a:VA} (h:a.Ok w0 G) (hs:G⊆H):a.Ok w0 H:=⟨h.rc.mono hs,h.n,h.i⟩
def Val.Head (v:Val):Prop:=¬ ((v.k≠3∧v.t≠[])∨(v.k≠5∧v.s≠[]))
theorem xQ {v:Val} {n:Int} (hn:n=(v.s.length:Nat)):((aI .neq v.k 3 && bJ .neq v.t []) || (aI .neq v.k 5 && aI .gtr n 0))=true↔(v.k≠3∧v.t≠[])∨(v.k≠5∧v.s≠[]):=by
 subst hn
 simp [aI,bJ,List.length_pos_iff]
theorem CP {v:Val} (h:((aI .neq v.k 3 && bJ .neq v.t []) || (aI .neq v.k 5 && aI .gtr ((v.s.length:Nat):Int) 0))=true):v.formed=false:=by
 unfold Val.formed
 rw [if_pos ((xQ rfl).1 h)]
theorem xR {v:Val} (h:((aI .neq v.k 3 && bJ .neq v.t []) || (aI .neq v.k 5 && aI .gtr ((v.s.length:Nat):Int) 0))=false):v.Head:=fun hh=>by
 rw [(xQ rfl).2 hh] at h
 exact absurd h ae
theorem xW {v:Val} (h:v.Head) (hk:v.k=1∨v.k=4):v.formed=true:=by
 unfold Val.formed
 rw [if_neg h,if_pos hk]
theorem EQ {v:Val} (h:v.Head) (hk:v.k=2):v.formed=((aI .eql v.n 0) || (aI .eql v.n 1)):=by
 unfold Val.formed
 rw [if_neg h,if_neg ag,if_pos hk]
 unfold aI
 rw [Bool.eq_iff_iff]
 simp
theorem xX {v:Val} (h:v.Head) (hk:v.k=0∨v.k=3):v.formed=aI .eql v.n 0:=by
 unfold Val.formed
 rw [if_neg h,if_neg ag,if_neg ag,if_pos hk]
 unfold aI
 rw [Bool.eq_iff_iff]
 simp
theorem xU {v:Val} (h:v.Head) (hk:v.k=5):v.formed=(fC v.s v.s.length && aI .eql v.n 0):=by
 unfold Val.formed
 rw [if_neg h,if_neg ag,if_neg ag,if_neg ag,if_pos hk]
 unfold aI
 rw [Bool.eq_iff_iff]
 simp
theorem EP {v:Val} (h:v.Head) (h1:¬ v.k=1) (h4:¬ v.k=4) (h2:¬ v.k=2) (h0:¬ v.k=0) (h3:¬ v.k=3) (h5:¬ v.k=5):v.formed=false:=by
 unfold Val.formed
 rw [if_neg h,if_neg ag,if_neg ag,if_neg ag,if_neg ag]
theorem mZ (s:List (List UInt8)) (i:Nat) (hi:1≤i):fC s (i+1)=(fC s i && !bJ .geq (s.getD (i-1) []) (s.getD i [])):=by
 obtain ⟨j,rfl⟩:∃ j,i=j+1:=⟨i-1,ag⟩
 rfl
theorem DZ {s:List (List UInt8)} {i:Nat} {q0 q:List UInt8} (hi:1≤i) (h0:s[i-1]? = some q0) (h1:s[i]? = some q) (hr:fC s i=true) (hg:bJ .geq q0 q=false):fC s (i+1)=true:=by
 rw [mZ s i hi,hr,List.getD_eq_getElem?_getD,List.getD_eq_getElem?_getD,h0,h1]
 show (true && !bJ .geq q0 q)=true
 rw [hg]; rfl
theorem tN {s:List (List UInt8)} {i:Nat} (h:fC s i=false):∀ j,i≤j→1≤i→fC s j=false
 | 0,hj,hi=>by omega
 | j+1,hj,hi=>by
  rcases Nat.eq_or_lt_of_le hj with e | hlt
  ·rw [← e]; exact h
  ·rw [mZ s j ag,tN h j ag hi,Bool.false_and]
theorem D5 {s:List (List UInt8)} {i:Nat} {q0 q:List UInt8} (hi:1≤i) (hl:i<s.length) (h0:s[i-1]? = some q0) (h1:s[i]? = some q) (hg:bJ .geq q0 q=true):fC s s.length=false:=by
 refine tN (i:=i+1) ?_ _ hl ag
 rw [mZ s i hi,List.getD_eq_getElem?_getD,List.getD_eq_getElem?_getD,h0,h1]
 show (_ && !bJ .geq q0 q)=false
 rw [hg,Bool.not_true,Bool.and_false]
theorem BR {s:List (List UInt8)} {i:Nat} (hi1:1≤i) (hi:i=1∨i≤s.length) (hl:¬ i<s.length) (hr:fC s i=true):fC s s.length=true:=by
 rcases Nat.eq_or_lt_of_le (Nat.le_of_not_lt hl) with e | h
 ·rw [e]; exact hr
 ·rw [show s.length=0 by omega]; rfl
set_option maxRecDepth 100000 in
set_option maxHeartbeats 2000000 in
theorem CX {w0:World} {R:List Seg} {G:List Seg} (va:VA) (w:World) (hV:va.Ok w0 G) (hG:G⊆R) (hA:Hp w0 R w):Calls Tryz.prog 153 #[.agg va.cells.toArray] w fun e w'=>e= .returned (.bool va.v.formed)∧Hp w0 R w':=by
 have hn:=hV.n
 refine aP Tryz.func153 O Tryz.ntmps153 ai (fun a hF=>?_)
 refine wp_seq_k fun K1 hK1=>wp_region_lit ?_
 refine ax O (fun K hK=>ed (cs:=[.int .i64 va.v.k,.int .i64 va.v.n,aj va.v.t,.slice va.sA va.v.s.length va.sC]) hF O ae rfl hA O (fun b1 w2 a hb1 hF hA3=>hK _ _ ?_))
 refine vR hF<|vX O<|vE hK1<|wQ fun K2 hK2=>wT fun K3 hK3=>vV O (yf 0 O ND O iZ O)<|vV O (aU O hA3.q O 0 O O ja)<|vV O (aF O O O O O)<|vX O fun a hF=>?_
 refine bK (l2:=?lA1) hF [(11,.bool ((aI .neq (va.v.k) (3)) && (bJ .neq va.v.t []))),(0,.agg ([.int .i64 va.v.k,.int .i64 va.v.n,aj va.v.t,.slice va.sA va.v.s.length va.sC]).toArray),(1,.pointer (some ⟨b1,0,none⟩)),(2,.bool false)] (fun hJ1=>?elA1) (fun a hF=>?flA1)
 case elA1 =>
  rcases tf (aI .neq (va.v.k) (3)) with hg1 | hg1
  ·refine az hF O O O O O (aB hg1) ae (fun a hF=>?_)
   refine az hF O O O O O (aB hg1) ae (fun a hF=>?_)
   refine az hF O O O O O (aB hg1) ae (fun a hF=>?_)
   refine vR hF<|vV O (bu hg1 rfl rfl rfl) fun a hF=>?_
   exact hJ1 _ ((hF.keep [11,0,1,2] (F':=[(11,_),(0,_),(1,_),(2,_)]) O).bool (by rw [hg1]; rfl))
  ·refine aJ hF O O O O (ak hg1) ae _ (yf 2 O ND O uB O) (fun a hF=>?_)
   refine aJ hF O O O O (ak hg1) ae _ (aU O hA3.q O 0 O O uU) (fun a hF=>?_)
   refine aJ hF O O O O (ak hg1) ae _ (fA O O O O O) (fun a hF=>?_)
   refine vR hF<|vV O (bF hg1 rfl rfl rfl) fun a hF=>?_
   exact hJ1 _ ((hF.keep [11,0,1,2] (F':=[(11,_),(0,_),(1,_),(2,_)]) O).bool (by rw [hg1]; rfl))
 refine vR hF<|vX O fun a hF=>?_
 refine bK (l2:=?lA2) hF [(22,.bool (((aI .neq (va.v.k) (3)) && (bJ .neq va.v.t [])) || ((aI .neq (va.v.k) (5)) && (aI .gtr (va.v.s.length) (0))))),(0,.agg ([.int .i64 va.v.k,.int .i64 va.v.n,aj va.v.t,.slice va.sA va.v.s.length va.sC]).toArray),(1,.pointer (some ⟨b1,0,none⟩)),(2,.bool false)] (fun hJ2=>?elA2) (fun a hF=>?flA2)
 case elA2 =>
  rcases tf ((aI .neq (va.v.k) (3)) && (bJ .neq va.v.t [])) with hg2 | hg2
  ·refine aJ hF O O O O (ak hg2) ae _ (yf 0 O ND O iZ O) (fun a hF=>?_)
   refine aJ hF O O O O (ak hg2) ae _ (aU O hA3.q O 0 O O ja) (fun a hF=>?_)
   refine aJ hF O O O O (ak hg2) ae _ (aF O O O O O) (fun a hF=>?_)
   refine aJ hF O O O O (ak hg2) ae _ (aV O O) (fun a hF=>?_)
   refine bK (l2:=?lA3) hF [(21,.bool ((aI .neq (va.v.k) (5)) && (aI .gtr (va.v.s.length) (0)))),(0,.agg ([.int .i64 va.v.k,.int .i64 va.v.n,aj va.v.t,.slice va.sA va.v.s.length va.sC]).toArray),(1,.pointer (some ⟨b1,0,none⟩)),(2,.bool false),(12,.bool ((aI .neq (va.v.k) (3)) && (bJ .neq va.v.t [])))] (fun hJ3=>?elA3) (fun a hF=>?flA3)
   case elA3 =>
    rcases tf (aI .neq (va.v.k) (5)) with hg3 | hg3
    ·refine az hF O O O O O (aB hg3) ae (fun a hF=>?_)
     refine az hF O O O O O (aB hg3) ae (fun a hF=>?_)
     refine az hF O O O O O (aB hg3) ae (fun a hF=>?_)
     refine az hF O O O O O (aB hg3) ae (fun a hF=>?_)
     refine aJ hF O O O O (ak hg2) ae _ (bu hg3 rfl rfl rfl) (fun a hF=>?_)
     exact hJ3 _ ((hF.keep [21,0,1,2,12] (F':=[(21,_),(0,_),(1,_),(2,_),(12,_)]) O).bool (by rw [hg3]; rfl))
    ·refine aJ hF O O O O (ak hg3) ae _ (yf 3 O ND O mf O) (fun a hF=>?_)
     refine aJ hF O O O O (ak hg3) ae _ (aU O hA3.q O 0 O O mi) (fun a hF=>?_)
     refine aJ hF O O O O (ak hg3) ae _ (aT O Nk O O) (fun a hF=>?_)
     refine aJ hF O O O O (ak hg3) ae _ (aF O O O O O) (fun a hF=>?_)
     refine aJ hF O O O O (ak hg2) ae _ (bF hg3 rfl rfl rfl) (fun a hF=>?_)
     exact hJ3 _ ((hF.keep [21,0,1,2,12] (F':=[(21,_),(0,_),(1,_),(2,_),(12,_)]) O).bool (by rw [hg3]; rfl))
   refine vR hF<|vV O (bu hg2 rfl rfl rfl) fun a hF=>?_
   exact hJ2 _ ((hF.keep [22,0,1,2] (F':=[(22,_),(0,_),(1,_),(2,_)]) O).bool (by rw [hg2]; rfl))
  ·refine az hF O O O O O (aB hg2) ae (fun a hF=>?_)
   refine az hF O O O O O (aB hg2) ae (fun a hF=>?_)
   refine az hF O O O O O (aB hg2) ae (fun a hF=>?_)
   refine az hF O O O O O (aB hg2) ae (fun a hF=>?_)
   refine bD hF O O O O O ae (fun a hF=>?_)
   refine bD hF O O O O O ae (fun a hF=>?_)
   refine bD hF O O O O O ae (fun a hF=>?_)
   refine bD hF O O O O O ae (fun a hF=>?_)
   refine az hF O O O O O (aB hg2) ae (fun a hF=>?_)
   refine vR hF<|vV O (bF hg2 rfl rfl rfl) fun a hF=>?_
   exact hJ2 _ ((hF.keep [22,0,1,2] (F':=[(22,_),(0,_),(1,_),(2,_)]) O).bool (by rw [hg2]; rfl))
 refine aH<|hK3 _ _ ?_
 rcases tf (((aI .neq (va.v.k) (3)) && (bJ .neq va.v.t [])) || ((aI .neq (va.v.k) (5)) && (aI .gtr (va.v.s.length) (0)))) with hs | hs
 ·refine au hF O hs ?_
  have hh:=xR hs
  by_cases hk1:va.v.k=1
  ·apply wp_skip
   refine hK2 _ _ ?_
   apply wp_seq_k; intro K4 hK4
   refine wS hF fun K5 hK5=>vV O (yf 0 O ND O iZ O)<|vV O (aU O hA3.q O 0 O O ja)<|vE hK5<|wBk<|wQ fun K6 hK6=>wT fun K7 hK7=>vV O (aF O O O O O)<|vX O<|vE hK7 fun a hF=>?_
   refine aG hF O (fF ag) ?_
   apply wp_skip
   refine hK6 _ _ ?_
   refine aG hF O (fF ag) ?_
   refine wS hF fun K8 hK8=>vX O<|vE hK8 fun a hF=>?_
   apply wp_ret
   simp only [Exit.then,Exit.inBlock]
   refine aO hF Tryz.results153 O ?_
   have hA4:Hp w0 (R) w2:=hpS 1 [] [0] hA3 rfl
   exact ⟨by rw [xW hh (.inl hk1)],hA4⟩
  ·by_cases hk4:va.v.k=4
   ·apply wp_skip
    refine hK2 _ _ ?_
    apply wp_seq_k; intro K9 hK9
    refine wS hF fun K10 hK10=>vV O (yf 0 O ND O iZ O)<|vV O (aU O hA3.q O 0 O O ja)<|vE hK10<|wBk<|wQ fun K11 hK11=>wT fun K12 hK12=>vV O (aF O O O O O)<|vX O<|vE hK12 fun a hF=>?_
    refine au hF O (bU ag) ?_
    refine wp_region_lit ?_
    refine vR hF<|vV O (aF O O O O O)<|vX O<|vE hK11 fun a hF=>?_
    refine aG hF O (fF ag) ?_
    refine wS hF fun K13 hK13=>vX O<|vE hK13 fun a hF=>?_
    apply wp_ret
    simp only [Exit.then,Exit.inBlock]
    refine aO hF Tryz.results153 O ?_
    have hA5:Hp w0 (R) w2:=hpS 1 [] [0] hA3 rfl
    exact ⟨by rw [xW hh (.inr hk4)],hA5⟩
   ·by_cases hk2:va.v.k=2
    ·apply wp_skip
     refine hK2 _ _ ?_
     apply wp_seq_k; intro K14 hK14
     refine wS hF fun K15 hK15=>vV O (yf 0 O ND O iZ O)<|vV O (aU O hA3.q O 0 O O ja)<|vE hK15<|wBk<|wQ fun K16 hK16=>wT fun K17 hK17=>vV O (aF O O O O O)<|vX O<|vE hK17 fun a hF=>?_
     refine au hF O (bU ag) ?_
     refine wp_region_lit ?_
     refine vR hF<|vV O (aF O O O O O)<|vX O<|vE hK16 fun a hF=>?_
     refine au hF O (bU ag) ?_
     refine wS hF fun K18 hK18=>vV O (aF O O O O O)<|vX O<|vE hK18 fun a hF=>?_
     refine aG hF O (fF ag) ?_
     refine wS hF fun K19 hK19=>vV O (yf 1 O ND O gZ O)<|vV O (aU O hA3.q O 0 O O jZ)<|vV O (aF O O O O O)<|vX O fun a hF=>?_
     refine bK (l2:=?lA4) hF [(37,.bool ((aI .eql (va.v.n) (0)) || (aI .eql (va.v.n) (1)))),(0,.agg ([.int .i64 va.v.k,.int .i64 va.v.n,aj va.v.t,.slice va.sA va.v.s.length va.sC]).toArray),(1,.pointer (some ⟨b1,0,none⟩)),(2,.bool false),(22,.bool (((aI .neq (va.v.k) (3)) && (bJ .neq va.v.t [])) || ((aI .neq (va.v.k) (5)) && (aI .gtr (va.v.s.length) (0))))),(23,.pointer (some ⟨b1,0,none⟩)),(24,.int .i64 va.v.k),(26,.bool (aI .eql (va.v.k) (1))),(25,.bool (aI .eql (va.v.k) (4))),(27,.bool (aI .eql (va.v.k) (4))),(29,.bool (aI .eql (va.v.k) (2))),(28,.bool (aI .eql (va.v.k) (2)))] (fun hJ4=>?elA4) (fun a hF=>?flA4)
     case elA4 =>
      rcases tf (aI .eql (va.v.n) (0)) with hg4 | hg4
      ·refine aJ hF O O O O (ak hg4) ae _ (yf 1 O ND O gZ O) (fun a hF=>?_)
       refine aJ hF O O O O (ak hg4) ae _ (aU O hA3.q O 0 O O jZ) (fun a hF=>?_)
       refine aJ hF O O O O (ak hg4) ae _ (aF O O O O O) (fun a hF=>?_)
       refine vR hF<|vV O (bu hg4 rfl rfl rfl) fun a hF=>?_
       exact hJ4 _ ((hF.keep [37,0,1,2,22,23,24,26,25,27,29,28] (F':=[(37,_),(0,_),(1,_),(2,_),(22,_),(23,_),(24,_),(26,_),(25,_),(27,_),(29,_),(28,_)]) O).bool (by rw [hg4]; rfl))
      ·refine az hF O O O O O (aB hg4) ae (fun a hF=>?_)
       refine az hF O O O O O (aB hg4) ae (fun a hF=>?_)
       refine az hF O O O O O (aB hg4) ae (fun a hF=>?_)
       refine vR hF<|vV O (bF hg4 rfl rfl rfl) fun a hF=>?_
       exact hJ4 _ ((hF.keep [37,0,1,2,22,23,24,26,25,27,29,28] (F':=[(37,_),(0,_),(1,_),(2,_),(22,_),(23,_),(24,_),(26,_),(25,_),(27,_),(29,_),(28,_)]) O).bool (by rw [hg4]; rfl))
     refine vR hF<|vX O<|vE hK19 fun a hF=>?_
     apply wp_ret
     simp only [Exit.then,Exit.inBlock]
     refine aO hF Tryz.results153 O ?_
     have hA6:Hp w0 (R) w2:=hpS 1 [] [0] hA3 rfl
     exact ⟨by rw [EQ hh hk2],hA6⟩
    ·by_cases hk0:va.v.k=0
     ·apply wp_skip
      refine hK2 _ _ ?_
      apply wp_seq_k; intro K20 hK20
      refine wS hF fun K21 hK21=>vV O (yf 0 O ND O iZ O)<|vV O (aU O hA3.q O 0 O O ja)<|vE hK21<|wBk<|wQ fun K22 hK22=>wT fun K23 hK23=>vV O (aF O O O O O)<|vX O<|vE hK23 fun a hF=>?_
      refine au hF O (bU ag) ?_
      refine wp_region_lit ?_
      refine vR hF<|vV O (aF O O O O O)<|vX O<|vE hK22 fun a hF=>?_
      refine au hF O (bU ag) ?_
      refine wS hF fun K24 hK24=>vV O (aF O O O O O)<|vX O<|vE hK24 fun a hF=>?_
      refine au hF O (bU ag) ?_
      apply wp_seq_k; intro K25 hK25
      refine wS hF fun K26 hK26=>vV O (aF O O O O O)<|vX O<|vE hK26 fun a hF=>?_
      refine aG hF O (fF ag) ?_
      apply wp_skip
      refine hK25 _ _ ?_
      refine aG hF O (fF ag) ?_
      refine wS hF fun K27 hK27=>vV O (yf 1 O ND O gZ O)<|vV O (aU O hA3.q O 0 O O jZ)<|vV O (aF O O O O O)<|vX O<|vE hK27 fun a hF=>?_
      apply wp_ret
      simp only [Exit.then,Exit.inBlock]
      refine aO hF Tryz.results153 O ?_
      have hA7:Hp w0 (R) w2:=hpS 1 [] [0] hA3 rfl
      exact ⟨by rw [xX hh (.inl hk0)],hA7⟩
     ·by_cases hk3:va.v.k=3
      ·apply wp_skip
       refine hK2 _ _ ?_
       apply wp_seq_k; intro K28 hK28
       refine wS hF fun K29 hK29=>vV O (yf 0 O ND O iZ O)<|vV O (aU O hA3.q O 0 O O ja)<|vE hK29<|wBk<|wQ fun K30 hK30=>wT fun K31 hK31=>vV O (aF O O O O O)<|vX O<|vE hK31 fun a hF=>?_
       refine au hF O (bU ag) ?_
       refine wp_region_lit ?_
       refine vR hF<|vV O (aF O O O O O)<|vX O<|vE hK30 fun a hF=>?_
       refine au hF O (bU ag) ?_
       refine wS hF fun K32 hK32=>vV O (aF O O O O O)<|vX O<|vE hK32 fun a hF=>?_
       refine au hF O (bU ag) ?_
       apply wp_seq_k; intro K33 hK33
       refine wS hF fun K34 hK34=>vV O (aF O O O O O)<|vX O<|vE hK34 fun a hF=>?_
       refine au hF O (bU ag) ?_
       refine wp_region_lit ?_
       refine vR hF<|vV O (aF O O O O O)<|vX O<|vE hK33 fun a hF=>?_
       refine aG hF O (fF ag) ?_
       refine wS hF fun K35 hK35=>vV O (yf 1 O ND O gZ O)<|vV O (aU O hA3.q O 0 O O jZ)<|vV O (aF O O O O O)<|vX O<|vE hK35 fun a hF=>?_
       apply wp_ret
       simp only [Exit.then,Exit.inBlock]
       refine aO hF Tryz.results153 O ?_
       have hA8:Hp w0 (R) w2:=hpS 1 [] [0] hA3 rfl
       exact ⟨by rw [xX hh (.inr hk3)],hA8⟩
      ·by_cases hk5:va.v.k=5
       ·apply wp_skip
        refine hK2 _ _ ?_
        apply wp_seq_k; intro K36 hK36
        refine wS hF fun K37 hK37=>vV O (yf 0 O ND O iZ O)<|vV O (aU O hA3.q O 0 O O ja)<|vE hK37<|wBk<|wQ fun K38 hK38=>wT fun K39 hK39=>vV O (aF O O O O O)<|vX O<|vE hK39 fun a hF=>?_
        refine au hF O (bU ag) ?_
        refine wp_region_lit ?_
        refine vR hF<|vV O (aF O O O O O)<|vX O<|vE hK38 fun a hF=>?_
        refine au hF O (bU ag) ?_
        refine wS hF fun K40 hK40=>vV O (aF O O O O O)<|vX O<|vE hK40 fun a hF=>?_
        refine au hF O (bU ag) ?_
        apply wp_seq_k; intro K41 hK41
        refine wS hF fun K42 hK42=>vV O (aF O O O O O)<|vX O<|vE hK42 fun a hF=>?_
        refine au hF O (bU ag) ?_
        refine wp_region_lit ?_
        refine vR hF<|vV O (aF O O O O O)<|vX O<|vE hK41 fun a hF=>?_
        refine au hF O (bU ag) ?_
        refine wS hF fun K43 hK43=>vV O (aF O O O O O)<|vX O<|vE hK43 fun a hF=>?_
        refine aG hF O (fF ag) ?_
        apply wp_seq_k; intro K44 hK44
        refine wS hF fun K45 hK45=>vX O<|vE hK45<|wBk fun a hF=>?_
        refine bH (G:=Nat) (fun i a x=>1≤i∧(i=1∨i≤va.v.s.length)∧fC va.v.s i=true∧Fr 68 [(3,.int .i64 (i:Int)),(1,.pointer (some ⟨b1,0,none⟩))] a∧Hp w0 ([row b1 25 [.int .i64 va.v.k,.int .i64 va.v.n,aj va.v.t,.slice va.sA va.v.s.length va.sC]]::R) x) (fun i=>va.v.s.length-i) 1 (⟨Nv _,.inl rfl,rfl,hF.keep [3,1] rfl,hA3⟩) ?_
        clear hF
        rintro i a w10 ⟨hi1,hi,hr,hF,hA9⟩
        apply wp_seq_k; intro K46 hK46
        refine wS hF fun K47 hK47=>vX O<|vV O (yf 3 O ND O mf O)<|vV O (aU O hA9.q O 0 O O mi)<|vV O (aT O Nk O O)<|vV O (aF O O O O O)<|vE hK47 fun a hF=>?_
        by_cases hlt:i<va.v.s.length
        ·refine aG hF O (dF ag) ?_
         obtain ⟨q,hp⟩:∃ q,va.v.s[i]? = some q:=⟨_,List.getElem?_eq_getElem hlt⟩
         obtain ⟨q0,hp0⟩:∃ q,va.v.s[i-1]? = some q:=⟨_,List.getElem?_eq_getElem ag⟩
         obtain ⟨b,o,hsA,hc⟩:=hV.rc.ne (i:=i) (by rw [List.length_map]; exact hlt)
         rw [hsA] at hA9
         apply wp_skip
         refine hK46 _ _ ?_
         apply wp_seq_k; intro K48 hK48
         apply wp_block
         apply wp_seq_k; intro K49 hK49
         refine aQ 11 [11] [0,1,2,3,4,5,6,7,8,9,10,11] _ af af (Hq.drew hA9.q) ?_
         have hA11:=Hl.drew hA9
         refine pR hF<|pW O O (fun _=>yf 3 O ND O mf O)<|pV O O (fun x hx=>aU O hx O 0 O O mi)<|pX O O<|pW O O (fun _=>eu O O O (Np _ ag))<|pW O O (fun _=>aY O Nk uB O O (i-1) ag ag (ad2 _ _ _))<|pV O O (fun x hx=>bV (u:=aj q0) rfl (Hq.sub hx (List.Subset.trans hG ((bM (dR))))) O hc (i-1) (by rw [List.length_map]; omega) rfl (by rw [List.getElem?_map,hp0]; rfl) uU) fun a hF=>?_
         refine pR hF<|pW O O (fun _=>yf 3 O ND O mf O)<|pV O O (fun x hx=>aU O hx O 0 O O mi)<|pX O O<|pW O O (fun _=>aY O Nk uB O O i rfl ag (ad2 _ _ _))<|pV O O (fun x hx=>bV (u:=aj q) rfl (Hq.sub hx (List.Subset.trans hG ((bM (dR))))) O hc i (by rw [List.length_map]; omega) rfl (by rw [List.getElem?_map,hp]; rfl) uU) fun a hF=>?_
         refine dG hF O O O O ae _ (fA O O O O O) (fun h=>absurd h ae) (fun a hF=>?_)
         refine bI ?_
         refine hK49 _ _ ?_
         rcases tf (bJ .geq q0 q) with hge | hge
         ·refine au hF O hge ?_
          apply wp_skip
          refine hK48 _ _ ?_
          refine wp_region_lit ?_
          refine vR hF<|vX O<|vV O (bT O O O (Np _ ag))<|vX O fun a hF=>?_
          refine aH ?_
          rw [← hsA] at hA11
          exact ⟨i+1,ag,ag,.inr ag,DZ hi1 hp0 hp hr hge,hF.keep [3,1] rfl,hA11⟩
         ·refine aG hF O hge ?_
          refine wS hF fun K50 hK50=>vX O<|vE hK50 fun a hF=>?_
          apply wp_ret
          simp only [Exit.then,Exit.inBlock]
          refine aO hF Tryz.results153 O ?_
          have hA12:Hp w0 (R) w10.drew:=hpS 1 [] [0] hA11 rfl
          exact ⟨by rw [xU hh hk5,D5 hi1 hlt hp0 hp hge,Bool.false_and],hA12⟩
        ·refine au hF O (dE ag) ?_
         apply wp_exit
         refine hK44 _ _ ?_
         refine wS hF fun K51 hK51=>vV O (yf 1 O ND O gZ O)<|vV O (aU O hA9.q O 0 O O jZ)<|vV O (aF O O O O O)<|vX O<|vE hK51 fun a hF=>?_
         apply wp_ret
         simp only [Exit.then,Exit.inBlock]
         refine aO hF Tryz.results153 O ?_
         have hA13:Hp w0 (R) w10:=hpS 1 [] [0] hA9 rfl
         exact ⟨by rw [xU hh hk5,BR hi1 hi hlt hr,Bool.true_and],hA13⟩
       ·apply wp_skip
        refine hK2 _ _ ?_
        apply wp_seq_k; intro K52 hK52
        refine wS hF fun K53 hK53=>vV O (yf 0 O ND O iZ O)<|vV O (aU O hA3.q O 0 O O ja)<|vE hK53<|wBk<|wQ fun K54 hK54=>wT fun K55 hK55=>vV O (aF O O O O O)<|vX O<|vE hK55 fun a hF=>?_
        refine au hF O (bU ag) ?_
        refine wp_region_lit ?_
        refine vR hF<|vV O (aF O O O O O)<|vX O<|vE hK54 fun a hF=>?_
        refine au hF O (bU ag) ?_
        refine wS hF fun K56 hK56=>vV O (aF O O O O O)<|vX O<|vE hK56 fun a hF=>?_
        refine au hF O (bU ag) ?_
        apply wp_seq_k; intro K57 hK57
        refine wS hF fun K58 hK58=>vV O (aF O O O O O)<|vX O<|vE hK58 fun a hF=>?_
        refine au hF O (bU ag) ?_
        refine wp_region_lit ?_
        refine vR hF<|vV O (aF O O O O O)<|vX O<|vE hK57 fun a hF=>?_
        refine au hF O (bU ag) ?_
        refine wS hF fun K59 hK59=>vV O (aF O O O O O)<|vX O<|vE hK59 fun a hF=>?_
        refine au hF O (bU ag) ?_
        apply wp_skip
        refine hK52 _ _ ?_
        refine wS hF fun K60 hK60=>vX O<|vE hK60 fun a hF=>?_
        apply wp_ret
        refine aO hF Tryz.results153 O ?_
        have hA14:Hp w0 (R) w2:=hpS 1 [] [0] hA3 rfl
        exact ⟨by rw [EP hh hk1 hk4 hk2 hk0 hk3 hk5],hA14⟩
 ·refine aG hF O hs ?_
  refine wS hF fun K61 hK61=>vX O<|vE hK61 fun a hF=>?_
  apply wp_ret
  simp only [Exit.then]
  refine aO hF Tryz.results153 O ?_
  have hA15:Hp w0 (R) w2:=hpS 1 [] [0] hA3 rfl
  exact ⟨by rw [CP hs],hA15⟩
theorem Ew (s:List UInt8):aI .gtr ((s.length:Nat):Int) 1024=iT s:=by
 unfold aI iT
 rw [Bool.eq_iff_iff]
 simp only [decide_eq_true_eq]
 omega
set_option maxRecDepth 100000 in
set_option maxHeartbeats 2000000 in
theorem IE (s:List UInt8) (w:World):Calls Tryz.prog 156 #[aj s] w fun e w'=>e= .returned (.bool (iT s))∧w=w':=by
 refine aP Tryz.func156 O Tryz.ntmps156 ai (fun a hF=>?_)
 refine wS hF fun K1 hK1=>vX O<|vE hK1<|wT fun K2 hK2=>vX O<|vV O (ik (z:=(s.length:Nat)) O Nz O O)<|vV O (aF O O O O O)<|vX O<|vE hK2 fun a hF=>?_
 apply wp_ret
 refine aO hF Tryz.results156 O ?_
 exact ⟨by rw [Ew],rfl⟩
theorem Gx {s:List (List UInt8)} {i:Nat} {q:List UInt8} {p:List UInt8→Bool} (hb:s[i]? = some q) (h:(s.take i).any p=false) (hp:p q=false):(s.take (i+1)).any p=false:=by
 rw [List.take_add_one,hb,List.any_append,h]
 simp [hp]
set_option maxRecDepth 100000 in
set_option maxHeartbeats 2000000 in
theorem EZ {w0:World} {R:List Seg} {G:List Seg} (va:VA) (w:World) (hV:va.Ok w0 G) (hG:G⊆R) (hA:Hp w0 R w):Calls Tryz.prog 192 #[.slice va.sA va.v.s.length va.sC,.func (.func 156) #[] #[]] w fun e w'=>∃ z:Int,e= .returned (.int .i64 z)∧decide (0≤z)=va.v.s.any iT∧w=w':=by
 have hn:=hV.n
 refine aP Tryz.func192 O Tryz.ntmps192 ai (fun a hF=>?_)
 refine wS hF fun K1 hK1=>vX O<|vE hK1<|wQ fun K2 hK2=>wT fun K3 hK3=>vX O<|vV O (aT O Nk O O)<|vX O<|vE hK3<|wBk fun a hF=>?_
 refine bH (G:=Nat) (fun i a x=>i≤va.v.s.length∧(va.v.s.take i).any iT=false∧w=x∧Fr 19 [(8,.int .i64 (i:Int)),(0,.slice va.sA va.v.s.length va.sC),(1,.func (.func 156) #[] #[]),(7,.int .i64 va.v.s.length)] a∧Hp w0 (R) x) (fun i=>va.v.s.length-i) 0 (⟨Nl _,rfl,rfl,hF.keep [8,0,1,7] rfl,hA⟩) ?_
 clear hF
 rintro i a w2 ⟨hi,hall,hww,hF,hA1⟩
 refine wS hF fun K4 hK4=>vV O (aF O O O O O)<|vE hK4<|wQ fun K5 hK5 a hF=>?_
 by_cases hlt:i<va.v.s.length
 ·refine aG hF O (dF ag) ?_
  obtain ⟨q,hp⟩:∃ q,va.v.s[i]? = some q:=⟨_,List.getElem?_eq_getElem hlt⟩
  obtain ⟨b,o,hsA,hc⟩:=hV.rc.ne (i:=i) (by rw [List.length_map]; exact hlt)
  rw [hsA] at hF
  apply wp_skip
  refine hK5 _ _ ?_
  apply wp_seq_k; intro K6 hK6
  apply wp_block
  refine wS hF fun K7 hK7=>vX O<|vX O<|vE hK7<|wT fun K8 hK8=>vX O<|vX O<|vX O<|vV O (aY O Nk uB O O i rfl ag (ad2 _ _ _))<|vV O (bV (u:=aj q) rfl (Hq.sub hA1.q (List.Subset.trans hG ((dR)))) O hc i (by rw [List.length_map]; omega) rfl (by rw [List.getElem?_map,hp]; rfl) uU) fun a hF=>?_
  refine ax O (fun K hK=>iP hF O ae FO rfl rfl rfl ?_)
  with_reducible refine (IE q _).mono ?_
  rintro e' w5 ⟨rfl,rfl⟩
  refine ⟨_,rfl,fun a hF=>hK _ _ ?_⟩
  refine aH<|hK8 _ _ ?_
  rcases tf (iT q) with hw | hw
  ·refine au hF O hw ?_
   apply wp_skip
   refine hK6 _ _ ?_
   refine wp_region_lit ?_
   refine vR hF<|vV O (bT O O O (Np _ ag))<|vX O fun a hF=>?_
   refine aH ?_
   rw [← hsA] at hF
   exact ⟨i+1,ag,ag,Gx hp hall hw,hww,hF.keep [8,0,1,7] rfl,hA1⟩
  ·refine aG hF O hw ?_
   refine wS hF fun K9 hK9=>vX O<|vX O<|vE hK9 fun a hF=>?_
   apply wp_ret
   simp only [Exit.then,Exit.inBlock]
   refine aO hF Tryz.results192 O ?_
   exact ⟨_,rfl,by rw [show va.v.s.any iT=true from List.any_eq_true.2 ⟨q,List.mem_of_getElem? hp,hw⟩]; simp,hww⟩
 ·refine au hF O (dE ag) ?_
  obtain rfl:i=va.v.s.length:=by omega
  rw [List.take_length] at hall
  apply wp_exit
  refine hK2 _ _ ?_
  refine wS hF fun K10 hK10=>vX O<|vE hK10 fun a hF=>?_
  apply wp_ret
  refine aO hF Tryz.results192 O ?_
  exact ⟨_,rfl,by rw [hall]; decide,hww⟩
set_option maxRecDepth 100000 in
set_option maxHeartbeats 2000000 in
theorem yu {w0:World} {R:List Seg} {G:List Seg} (va:VA) (w:World) (hV:va.Ok w0 G) (hG:G⊆R) (hA:Hp w0 R w):Calls Tryz.prog 155 #[.slice va.sA va.v.s.length va.sC,.func (.func 156) #[] #[]] w fun e w'=>e= .returned (.bool (va.v.s.any iT))∧w=w':=by
 refine aP Tryz.func155 O Tryz.ntmps155 ai (fun a hF=>?_)
 refine wS hF fun K1 hK1=>vX O<|vE hK1<|wT fun K2 hK2=>vX O<|vX O fun a hF=>?_
 refine ax O (fun K hK=>ay hF O ae FI rfl rfl ?_)
 with_reducible refine (EZ va _ hV hG hA).mono ?_
 rintro e' w3 ⟨z,rfl,hz,rfl⟩
 refine ⟨_,rfl,fun a hF=>hK _ _ ?_⟩
 refine vR hF<|vV O (aF O O O O O)<|vX O<|vE hK2 fun a hF=>?_
 apply wp_ret
 refine aO hF Tryz.results155 O ?_
 exact ⟨by rw [← hz]; rfl,rfl⟩
theorem right_c1 {v:Val}:(aI .eql v.k 4 && !(aI .geq v.n 0 && aI .leq v.n 4611686018427387904))=true↔v.k=4∧¬ (0≤v.n∧v.n≤4611686018427387904):=by
 unfold aI
 simp only [Bool.and_eq_true,Bool.not_eq_true',Bool.and_eq_false_iff,decide_eq_true_eq,decide_eq_false_iff_not,beq_iff_eq]
 omega
theorem right_c2 {v:Val}:(aI .gtr ((v.t.length:Nat):Int) 1024 || v.s.any iT)=true↔1024<v.t.length∨v.s.any iT=true:=by
 rw [Bool.or_eq_true]
 refine or_congr ?_ Iff.rfl
 unfold aI
 simp only [decide_eq_true_eq]
 omega
theorem right_c3 {v:Val}:aI .gtr ((v.s.length:Nat):Int) 64=true↔64<v.s.length:=by
 unfold aI
 simp only [decide_eq_true_eq]
 omega
theorem Hw {v:Val} (h0:(!(v.formed))=true):v.right=8:=by
 unfold Val.right
 rw [if_pos (by simpa using h0)]
theorem Hu {v:Val} (h0:(!(v.formed))=false) (h1:(aI .eql v.k 4 && !(aI .geq v.n 0 && aI .leq v.n 4611686018427387904))=true):v.right=111:=by
 unfold Val.right
 rw [if_neg (by simpa using h0),if_pos (right_c1.1 h1)]
theorem Ht {v:Val} (h0:(!(v.formed))=false) (h1:(aI .eql v.k 4 && !(aI .geq v.n 0 && aI .leq v.n 4611686018427387904))=false) (h2:(aI .gtr ((v.t.length:Nat):Int) 1024 || v.s.any iT)=true):v.right=113:=by
 unfold Val.right
 rw [if_neg (by simpa using h0),if_neg (fun h=>by rw [right_c1.2 h] at h1; exact absurd h1 ae),if_pos (right_c2.1 h2)]
theorem Hr {v:Val} (h0:(!(v.formed))=false) (h1:(aI .eql v.k 4 && !(aI .geq v.n 0 && aI .leq v.n 4611686018427387904))=false) (h2:(aI .gtr ((v.t.length:Nat):Int) 1024 || v.s.any iT)=false) (h3:aI .gtr ((v.s.length:Nat):Int) 64=true):v.right=114:=by
 unfold Val.right
 rw [if_neg (by simpa using h0),if_neg (fun h=>by rw [right_c1.2 h] at h1; exact absurd h1 ae),if_neg (fun h=>by rw [right_c2.2 h] at h2; exact absurd h2 ae),if_pos (right_c3.1 h3)]
theorem D6 {v:Val} (h0:(!(v.formed))=false) (h1:(aI .eql v.k 4 && !(aI .geq v.n 0 && aI .leq v.n 4611686018427387904))=false) (h2:(aI .gtr ((v.t.length:Nat):Int) 1024 || v.s.any iT)=false) (h3:aI .gtr ((v.s.length:Nat):Int) 64=false):v.right=0:=by
 unfold Val.right
 rw [if_neg (by simpa using h0),if_neg (fun h=>by rw [right_c1.2 h] at h1; exact absurd h1 ae),if_neg (fun h=>by rw [right_c2.2 h] at h2; exact absurd h2 ae),if_neg (fun h=>by rw [right_c3.2 h] at h3; exact absurd h3 ae)]
set_option maxRecDepth 100000 in
set_option maxHeartbeats 2000000 in
theorem rO {w0:World} {R:List Seg} {G:List Seg} (va:VA) (w:World) (hV:va.Ok w0 G) (hG:G⊆R) (hA:Hp w0 R w):Calls Tryz.prog 101 #[.agg va.cells.toArray] w fun e w'=>e= .returned (.int .i64 (va.v.right:Nat))∧Hp w0 R w':=by
 have hn:=hV.n
 refine aP Tryz.func101 O Tryz.ntmps101 ai (fun a hF=>?_)
 refine wp_seq_k fun K1 hK1=>wp_region_lit ?_
 refine ax O (fun K hK=>ed (cs:=[.int .i64 va.v.k,.int .i64 va.v.n,aj va.v.t,.slice va.sA va.v.s.length va.sC]) hF O ae rfl hA O (fun b1 w2 a hb1 hF hA3=>hK _ _ ?_))
 refine vR hF<|vX O<|vE hK1<|wQ fun K2 hK2=>wBk<|wT fun K3 hK3=>vV O (cZ (new:=[.int .i64 va.v.k,.int .i64 va.v.n,aj va.v.t,.slice va.sA va.v.s.length va.sC]) O hA3.q O 0 O Ho ai rfl) fun a hF=>?_
 refine ax O (fun K hK=>ay hF O ae FT rfl rfl ?_)
 with_reducible refine (CX va _ hV (List.Subset.trans hG (bM (dR))) hA3).mono ?_
 rintro e' w4 ⟨rfl,hA5⟩
 refine ⟨_,rfl,fun a hF=>hK _ _ ?_⟩
 replace hA5:Hp w0 ([row b1 25 [.int .i64 va.v.k,.int .i64 va.v.n,aj va.v.t,.slice va.sA va.v.s.length va.sC]]::R) w4:=hA5
 refine vR hF<|vV O (dm O O O)<|vX O<|vE hK3 fun a hF=>?_
 rcases tf (!va.v.formed) with hq0 | hq0
 ·refine au hF O hq0 ?_
  refine wS hF fun K4 hK4=>vV O (yf 0 O ND O iZ O)<|vV O (aU O hA5.q O 0 O O ja)<|vV O (aF O O O O O)<|vX O fun a hF=>?_
  refine bK (l2:=?lA1) hF [(16,.bool ((aI .eql (va.v.k) (4)) && (!(aI .geq va.v.n 0 && aI .leq va.v.n 4611686018427387904)))),(0,.agg ([.int .i64 va.v.k,.int .i64 va.v.n,aj va.v.t,.slice va.sA va.v.s.length va.sC]).toArray),(1,.pointer (some ⟨b1,0,none⟩)),(2,.int .i64 0),(4,.agg ([.int .i64 va.v.k,.int .i64 va.v.n,aj va.v.t,.slice va.sA va.v.s.length va.sC]).toArray),(5,.bool va.v.formed),(6,.bool (!va.v.formed)),(3,.bool (!va.v.formed))] (fun hJ1=>?elA1) (fun a hF=>?flA1)
  case elA1 =>
   rcases tf (aI .eql (va.v.k) (4)) with hg1 | hg1
   ·refine az hF O O O O O (aB hg1) ae (fun a hF=>?_)
    refine az hF O O O O O (aB hg1) ae (fun a hF=>?_)
    refine az hF O O O O O (aB hg1) ae (fun a hF=>?_)
    refine az hF O O O O O (aB hg1) ae (fun a hF=>?_)
    refine vR hF<|vV O (bu hg1 rfl rfl rfl) fun a hF=>?_
    exact hJ1 _ ((hF.keep [16,0,1,2,4,5,6,3] (F':=[(16,_),(0,_),(1,_),(2,_),(4,_),(5,_),(6,_),(3,_)]) O).bool (by rw [hg1]; rfl))
   ·refine aJ hF O O O O (ak hg1) ae _ (yf 1 O ND O gZ O) (fun a hF=>?_)
    refine aJ hF O O O O (ak hg1) ae _ (aU O hA5.q O 0 O O jZ) (fun a hF=>?_)
    refine gI hF O O O (ak hg1) (fun K hK=>ay hF O ae FQ rfl rfl ?_)
    with_reducible refine (CU va.v.n _).mono ?_
    rintro e' w8 ⟨rfl,rfl⟩
    refine ⟨_,rfl,fun a hF=>hK _ _ ?_⟩
    refine aJ hF O O O O (ak hg1) ae _ (dm O O O) (fun a hF=>?_)
    refine vR hF<|vV O (bF hg1 rfl rfl rfl) fun a hF=>?_
    exact hJ1 _ ((hF.keep [16,0,1,2,4,5,6,3] (F':=[(16,_),(0,_),(1,_),(2,_),(4,_),(5,_),(6,_),(3,_)]) O).bool (by rw [hg1]; rfl))
  refine vR hF<|vX O<|vE hK4 fun a hF=>?_
  rcases tf ((aI .eql (va.v.k) (4)) && (!(aI .geq va.v.n 0 && aI .leq va.v.n 4611686018427387904))) with hq1 | hq1
  ·refine au hF O hq1 ?_
   refine wS hF fun K5 hK5=>vV O (yf 2 O ND O uB O)<|vV O (aU O hA5.q O 0 O O uU)<|vV O (ik (z:=(va.v.t.length:Nat)) O Nz O O)<|vV O (aF O O O O O)<|vX O fun a hF=>?_
   refine bK (l2:=?lA2) hF [(26,.bool ((aI .gtr ((va.v.t.length:Nat)) (1024)) || ((va.v.s.any iT)))),(0,.agg ([.int .i64 va.v.k,.int .i64 va.v.n,aj va.v.t,.slice va.sA va.v.s.length va.sC]).toArray),(1,.pointer (some ⟨b1,0,none⟩)),(2,.int .i64 0),(4,.agg ([.int .i64 va.v.k,.int .i64 va.v.n,aj va.v.t,.slice va.sA va.v.s.length va.sC]).toArray),(5,.bool va.v.formed),(6,.bool (!va.v.formed)),(3,.bool (!va.v.formed)),(16,.bool ((aI .eql (va.v.k) (4)) && (!(aI .geq va.v.n 0 && aI .leq va.v.n 4611686018427387904)))),(7,.bool ((aI .eql (va.v.k) (4)) && (!(aI .geq va.v.n 0 && aI .leq va.v.n 4611686018427387904))))] (fun hJ2=>?elA2) (fun a hF=>?flA2)
   case elA2 =>
    rcases tf (aI .gtr ((va.v.t.length:Nat)) (1024)) with hg2 | hg2
    ·refine aJ hF O O O O (ak hg2) ae _ (yf 3 O ND O mf O) (fun a hF=>?_)
     refine aJ hF O O O O (ak hg2) ae _ (aU O hA5.q O 0 O O mi) (fun a hF=>?_)
     refine gI hF O O O (ak hg2) (fun K hK=>ay hF O ae FP rfl rfl ?_)
     with_reducible refine (yu va _ hV (List.Subset.trans hG (bM (dR))) hA5).mono ?_
     rintro e' w11 ⟨rfl,rfl⟩
     refine ⟨_,rfl,fun a hF=>hK _ _ ?_⟩
     refine vR hF<|vV O (bu hg2 rfl rfl rfl) fun a hF=>?_
     exact hJ2 _ ((hF.keep [26,0,1,2,4,5,6,3,16,7] (F':=[(26,_),(0,_),(1,_),(2,_),(4,_),(5,_),(6,_),(3,_),(16,_),(7,_)]) O).bool (by rw [hg2]; rfl))
    ·refine az hF O O O O O (aB hg2) ae (fun a hF=>?_)
     refine az hF O O O O O (aB hg2) ae (fun a hF=>?_)
     refine az hF O O O O O (aB hg2) ae (fun a hF=>?_)
     refine vR hF<|vV O (bF hg2 rfl rfl rfl) fun a hF=>?_
     exact hJ2 _ ((hF.keep [26,0,1,2,4,5,6,3,16,7] (F':=[(26,_),(0,_),(1,_),(2,_),(4,_),(5,_),(6,_),(3,_),(16,_),(7,_)]) O).bool (by rw [hg2]; rfl))
   refine vR hF<|vX O<|vE hK5 fun a hF=>?_
   rcases tf ((aI .gtr ((va.v.t.length:Nat)) (1024)) || ((va.v.s.any iT))) with hq2 | hq2
   ·refine au hF O hq2 ?_
    refine wS hF fun K6 hK6=>vV O (yf 3 O ND O mf O)<|vV O (aU O hA5.q O 0 O O mi)<|vV O (aT O Nk O O)<|vV O (aF O O O O O)<|vX O<|vE hK6 fun a hF=>?_
    rcases tf (aI .gtr (va.v.s.length) (64)) with hq3 | hq3
    ·refine au hF O hq3 ?_
     apply wp_skip
     refine hK2 _ _ ?_
     refine wS hF fun K7 hK7=>vX O<|vE hK7 fun a hF=>?_
     apply wp_ret
     refine aO hF Tryz.results101 O ?_
     have hA12:Hp w0 (R) w4:=hpS 1 [] [0] hA5 rfl
     exact ⟨by rw [D6 hq0 hq1 hq2 hq3]; rfl,hA12⟩
    ·refine aG hF O hq3 ?_
     refine wS hF fun K8 hK8=>vX O<|vE hK8 fun a hF=>?_
     apply wp_ret
     simp only [Exit.then,Exit.inBlock]
     refine aO hF Tryz.results101 O ?_
     have hA13:Hp w0 (R) w4:=hpS 1 [] [0] hA5 rfl
     exact ⟨by rw [Hr hq0 hq1 hq2 hq3]; rfl,hA13⟩
   ·refine aG hF O hq2 ?_
    refine wS hF fun K9 hK9=>vX O<|vE hK9 fun a hF=>?_
    apply wp_ret
    simp only [Exit.then,Exit.inBlock]
    refine aO hF Tryz.results101 O ?_
    have hA14:Hp w0 (R) w4:=hpS 1 [] [0] hA5 rfl
    exact ⟨by rw [Ht hq0 hq1 hq2]; rfl,hA14⟩
  ·refine aG hF O hq1 ?_
   refine wS hF fun K10 hK10=>vX O<|vE hK10 fun a hF=>?_
   apply wp_ret
   simp only [Exit.then,Exit.inBlock]
   refine aO hF Tryz.results101 O ?_
   have hA15:Hp w0 (R) w4:=hpS 1 [] [0] hA5 rfl
   exact ⟨by rw [Hu hq0 hq1]; rfl,hA15⟩
 ·refine aG hF O hq0 ?_
  refine wS hF fun K11 hK11=>vX O<|vE hK11 fun a hF=>?_
  apply wp_ret
  simp only [Exit.then,Exit.inBlock]
  refine aO hF Tryz.results101 O ?_
  have hA16:Hp w0 (R) w4:=hpS 1 [] [0] hA5 rfl
  exact ⟨by rw [Hw hq0]; rfl,hA16⟩
end Go.Proofs.YtepbmdlgdaedpaaGreatDoor
