/- Cases held against one another; a case in new memory. -/
import Derived.Test.YtepbmdlgdaedpaaGreatDoorSt1
import Derived.Test.YtepbmdlgdaedpaaGreatDoorRf
/- Cases held against one another; a case in new memory. -/
namespace Go.Proofs.YtepbmdlgdaedpaaGreatDoor
open Go.RowKit Go.Dk
theorem yS:isRow Tryz.prog 52 39=true:=af
theorem Gy:(Tryz.prog.info? 52).map (·.size)=some 39:=af
theorem FK:aP Tryz.prog 119:=⟨_,Tryz.func119,af,af⟩
theorem FI:aP Tryz.prog 120:=⟨_,Tryz.func120,af,af⟩
theorem Fz:aP Tryz.prog 169:=⟨_,Tryz.func169,af,af⟩
theorem F9:bT Tryz.prog 52 (.agg ([.string (⟨#[]⟩),.string (⟨#[]⟩),.int .i64 0,.int .u8 0,.int .u8 0,.int .u8 0,.int .u8 0,.int .u8 0,.int .u8 0,.int .u8 0,.int .u8 0,.int .u8 0,.int .u8 0,.int .u8 0,.int .u8 0,.int .u8 0,.int .u8 0,.int .u8 0,.int .u8 0,.int .u8 0,.int .u8 0,.int .u8 0,.int .u8 0,.int .u8 0,.int .u8 0,.int .u8 0,.int .u8 0,.int .u8 0,.int .u8 0,.int .u8 0,.int .u8 0,.int .u8 0,.int .u8 0,.int .u8 0,.int .u8 0,.slice none 0 0,.slice none 0 0,.slice none 0 0,.slice none 0 0]:List Value).toArray):=by unfold bT; kernel_rfl
set_option maxRecDepth 100000 in
set_option maxHeartbeats 8000000 in
theorem Ih {w0:World} {R:List Seg} {G H:List Seg} (va vb:VA) (w:World) (hV:va.Ok w0 G) (hG:G⊆R) (hW:vb.Ok w0 H) (hH:H⊆R) (hA:Hp w0 R w):Calls Tryz.prog 169 #[.agg va.cells.toArray,.agg vb.cells.toArray] w fun e w'=>e= .returned (.bool (decide (va.v=vb.v)))∧Hp w0 R w':=by
 have hn:=hV.n
 have hm:=hW.n
 refine aQ Tryz.func169 O Tryz.ntmps169 ai (fun a hF=>?_)
 refine wp_seq_k fun K1 hK1=>wp_region_lit ?_
 refine ax O (fun K hK=>dL (cs:=[.int .i64 va.v.k,.int .i64 va.v.n,ak va.v.t,.slice va.sA va.v.s.length va.sC]) hF O ae rfl hA O (fun b1 w2 a hb1 hF hA3=>hK _ _ ?_))
 refine ax O (fun K hK=>dL (cs:=[.int .i64 vb.v.k,.int .i64 vb.v.n,ak vb.v.t,.slice vb.sA vb.v.s.length vb.sC]) hF O ae rfl hA3 O (fun b4 w5 a hb4 hF hA6=>hK _ _ ?_))
 refine vR hF<|vX O<|vE hK1<|wT fun K2 hK2=>vV O (yf 0 O QE O jU O)<|vV O (aX O hA6.q O 1 O O jV)<|vV O (yf 0 O QE O jU O)<|vV O (aX O hA6.q O 0 O O jV)<|vV O (aJ O O O O O)<|vX O fun a hF=>?_
 refine bF (l2:=?lA1) hF [(16,.bool ((aF .eql (va.v.k) (vb.v.k)) && (aF .eql (va.v.n) (vb.v.n)))),(0,.agg ([.int .i64 va.v.k,.int .i64 va.v.n,ak va.v.t,.slice va.sA va.v.s.length va.sC]).toArray),(1,.agg ([.int .i64 vb.v.k,.int .i64 vb.v.n,ak vb.v.t,.slice vb.sA vb.v.s.length vb.sC]).toArray),(2,.pointer (some ⟨b1,0,none⟩)),(3,.pointer (some ⟨b4,0,none⟩)),(4,.bool false)] (fun hJ1=>?elA1) (fun a hF=>?flA1)
 case elA1 =>
  rcases tf (aF .eql (va.v.k) (vb.v.k)) with hg1 | hg1
  ·refine az hF O O O O O (aB hg1) ae (fun a hF=>?_)
   refine az hF O O O O O (aB hg1) ae (fun a hF=>?_)
   refine az hF O O O O O (aB hg1) ae (fun a hF=>?_)
   refine az hF O O O O O (aB hg1) ae (fun a hF=>?_)
   refine az hF O O O O O (aB hg1) ae (fun a hF=>?_)
   refine vR hF<|vV O (aV hg1 rfl rfl rfl) fun a hF=>?_
   exact hJ1 _ ((hF.keep [16,0,1,2,3,4] (F':=[(16,_),(0,_),(1,_),(2,_),(3,_),(4,_)]) O).bool (by rw [hg1]; rfl))
  ·refine aI hF O O O O (aj hg1) ae _ (yf 1 O QE O jC O) (fun a hF=>?_)
   refine aI hF O O O O (aj hg1) ae _ (aX O hA6.q O 1 O O nJ) (fun a hF=>?_)
   refine aI hF O O O O (aj hg1) ae _ (yf 1 O QE O jC O) (fun a hF=>?_)
   refine aI hF O O O O (aj hg1) ae _ (aX O hA6.q O 0 O O nJ) (fun a hF=>?_)
   refine aI hF O O O O (aj hg1) ae _ (aJ O O O O O) (fun a hF=>?_)
   refine vR hF<|vV O (bg hg1 rfl rfl rfl) fun a hF=>?_
   exact hJ1 _ ((hF.keep [16,0,1,2,3,4] (F':=[(16,_),(0,_),(1,_),(2,_),(3,_),(4,_)]) O).bool (by rw [hg1]; rfl))
 refine vR hF<|vX O fun a hF=>?_
 refine bF (l2:=?lA2) hF [(23,.bool (((aF .eql (va.v.k) (vb.v.k)) && (aF .eql (va.v.n) (vb.v.n))) && (bI .eql va.v.t vb.v.t))),(0,.agg ([.int .i64 va.v.k,.int .i64 va.v.n,ak va.v.t,.slice va.sA va.v.s.length va.sC]).toArray),(1,.agg ([.int .i64 vb.v.k,.int .i64 vb.v.n,ak vb.v.t,.slice vb.sA vb.v.s.length vb.sC]).toArray),(2,.pointer (some ⟨b1,0,none⟩)),(3,.pointer (some ⟨b4,0,none⟩)),(4,.bool false)] (fun hJ2=>?elA2) (fun a hF=>?flA2)
 case elA2 =>
  rcases tf ((aF .eql (va.v.k) (vb.v.k)) && (aF .eql (va.v.n) (vb.v.n))) with hg2 | hg2
  ·refine az hF O O O O O (aB hg2) ae (fun a hF=>?_)
   refine az hF O O O O O (aB hg2) ae (fun a hF=>?_)
   refine az hF O O O O O (aB hg2) ae (fun a hF=>?_)
   refine az hF O O O O O (aB hg2) ae (fun a hF=>?_)
   refine az hF O O O O O (aB hg2) ae (fun a hF=>?_)
   refine vR hF<|vV O (aV hg2 rfl rfl rfl) fun a hF=>?_
   exact hJ2 _ ((hF.keep [23,0,1,2,3,4] (F':=[(23,_),(0,_),(1,_),(2,_),(3,_),(4,_)]) O).bool (by rw [hg2]; rfl))
  ·refine aI hF O O O O (aj hg2) ae _ (yf 2 O QE O xq O) (fun a hF=>?_)
   refine aI hF O O O O (aj hg2) ae _ (aX O hA6.q O 1 O O xM) (fun a hF=>?_)
   refine aI hF O O O O (aj hg2) ae _ (yf 2 O QE O xq O) (fun a hF=>?_)
   refine aI hF O O O O (aj hg2) ae _ (aX O hA6.q O 0 O O xM) (fun a hF=>?_)
   refine aI hF O O O O (aj hg2) ae _ (eF O O O O O) (fun a hF=>?_)
   refine vR hF<|vV O (bg hg2 rfl rfl rfl) fun a hF=>?_
   exact hJ2 _ ((hF.keep [23,0,1,2,3,4] (F':=[(23,_),(0,_),(1,_),(2,_),(3,_),(4,_)]) O).bool (by rw [hg2]; rfl))
 refine vR hF<|vX O fun a hF=>?_
 refine Gs (l2:=?lA3) hF (fun x=>Hp w0 ([row b4 25 [.int .i64 vb.v.k,.int .i64 vb.v.n,ak vb.v.t,.slice vb.sA vb.v.s.length vb.sC]]::[row b1 25 [.int .i64 va.v.k,.int .i64 va.v.n,ak va.v.t,.slice va.sA va.v.s.length va.sC]]::R) x) [(30,.bool ((((aF .eql (va.v.k) (vb.v.k)) && (aF .eql (va.v.n) (vb.v.n))) && (bI .eql va.v.t vb.v.t)) && ((decide (va.v.s=vb.v.s))))),(0,.agg ([.int .i64 va.v.k,.int .i64 va.v.n,ak va.v.t,.slice va.sA va.v.s.length va.sC]).toArray),(1,.agg ([.int .i64 vb.v.k,.int .i64 vb.v.n,ak vb.v.t,.slice vb.sA vb.v.s.length vb.sC]).toArray),(4,.bool false)] (fun hJ3=>?elA3) (fun a w7 hF hA8=>?flA3)
 case elA3 =>
  rcases tf (((aF .eql (va.v.k) (vb.v.k)) && (aF .eql (va.v.n) (vb.v.n))) && (bI .eql va.v.t vb.v.t)) with hg3 | hg3
  ·refine az hF O O O O O (aB hg3) ae (fun a hF=>?_)
   refine az hF O O O O O (aB hg3) ae (fun a hF=>?_)
   refine az hF O O O O O (aB hg3) ae (fun a hF=>?_)
   refine az hF O O O O O (aB hg3) ae (fun a hF=>?_)
   refine az hF O O O O O (aB hg3) ae (fun a hF=>?_)
   refine vR hF<|vV O (aV hg3 rfl rfl rfl) fun a hF=>?_
   exact hJ3 _ _ ((hF.keep [30,0,1,4] (F':=[(30,_),(0,_),(1,_),(4,_)]) O).bool (by rw [hg3]; rfl)) hA6
  ·refine aI hF O O O O (aj hg3) ae _ (yf 3 O QE O nU O) (fun a hF=>?_)
   refine aI hF O O O O (aj hg3) ae _ (aX O hA6.q O 1 O O nZ) (fun a hF=>?_)
   refine aI hF O O O O (aj hg3) ae _ (yf 3 O QE O nU O) (fun a hF=>?_)
   refine aI hF O O O O (aj hg3) ae _ (aX O hA6.q O 0 O O nZ) (fun a hF=>?_)
   refine dG hF O O O (aj hg3) (fun K hK=>ay hF O ae LX rfl rfl ?_)
   with_reducible refine (gY w0 _ ([row b4 25 [.int .i64 vb.v.k,.int .i64 vb.v.n,ak vb.v.t,.slice vb.sA vb.v.s.length vb.sC]]::[row b1 25 [.int .i64 va.v.k,.int .i64 va.v.n,ak va.v.t,.slice va.sA va.v.s.length va.sC]]::R) va.sA vb.sA va.v.s vb.v.s va.sC vb.sC (hV.rc.mono (List.Subset.trans hG (bJ (bJ (dD))))) (hW.rc.mono (List.Subset.trans hH (bJ (bJ (dD))))) hA6 hV.n).mono ?_
   rintro e' w9 ⟨rfl,hA10⟩
   refine ⟨_,rfl,fun a hF=>hK _ _ ?_⟩
   replace hA10:Hp w0 ([row b4 25 [.int .i64 vb.v.k,.int .i64 vb.v.n,ak vb.v.t,.slice vb.sA vb.v.s.length vb.sC]]::[row b1 25 [.int .i64 va.v.k,.int .i64 va.v.n,ak va.v.t,.slice va.sA va.v.s.length va.sC]]::R) w9:=hA10
   refine vR hF<|vV O (bg hg3 rfl rfl rfl) fun a hF=>?_
   exact hJ3 _ _ ((hF.keep [30,0,1,4] (F':=[(30,_),(0,_),(1,_),(4,_)]) O).bool (by rw [hg3]; rfl)) hA10
 replace hA8:Hp w0 ([row b4 25 [.int .i64 vb.v.k,.int .i64 vb.v.n,ak vb.v.t,.slice vb.sA vb.v.s.length vb.sC]]::[row b1 25 [.int .i64 va.v.k,.int .i64 va.v.n,ak va.v.t,.slice va.sA va.v.s.length va.sC]]::R) w7:=hA8
 refine vR hF<|vX O<|vE hK2 fun a hF=>?_
 apply wp_ret
 refine aO hF Tryz.results169 O ?_
 have hA11:Hp w0 (R) w7:=hpS 2 [] [0,1] hA8 rfl
 exact ⟨by rw [GV],hA11⟩
theorem Gz {a b:List UInt8} (h:a=b):bI .eql a b=true:=by subst h; unfold bI; simp
theorem yK {a b:List UInt8} (h:a=b):bI .neq a b=false:=by subst h; unfold bI; simp
set_option maxRecDepth 100000 in
set_option maxHeartbeats 8000000 in
theorem Le {w0:World} {R:List Seg} {G H:List Seg} (pa pb:List UInt8 × VA) (w:World) (h1:pa.1=pb.1) (h2:pa.2.v=pb.2.v) (hV:pa.2.Ok w0 G) (hG:G⊆R) (hW:pb.2.Ok w0 H) (hH:H⊆R) (hA:Hp w0 R w):Calls Tryz.prog 120 #[.agg (gz pa).toArray,.agg (gz pb).toArray] w fun e w'=>e= .returned (.bool true)∧Hp w0 R w':=by
 refine aQ Tryz.func120 O Tryz.ntmps120 ai (fun a hF=>?_)
 refine wp_seq_k fun K1 hK1=>wp_region_lit ?_
 refine ax O (fun K hK=>dL (cs:=[ak pa.1,.int .i64 pa.2.v.k,.int .i64 pa.2.v.n,ak pa.2.v.t,.slice pa.2.sA pa.2.v.s.length pa.2.sC]) hF O ae rfl hA O (fun b1 w2 a hb1 hF hA3=>hK _ _ ?_))
 refine ax O (fun K hK=>dL (cs:=[ak pb.1,.int .i64 pb.2.v.k,.int .i64 pb.2.v.n,ak pb.2.v.t,.slice pb.2.sA pb.2.v.s.length pb.2.sC]) hF O ae rfl hA3 O (fun b4 w5 a hb4 hF hA6=>hK _ _ ?_))
 refine vR hF<|vX O<|vE hK1<|wT fun K2 hK2=>vV O (yf 0 O QP O xq O)<|vV O (aX O hA6.q O 1 O O xM)<|vV O (yf 0 O QP O xq O)<|vV O (aX O hA6.q O 0 O O xM)<|vV O (eF O O O O (Gz h1))<|vX O fun a hF=>?_
 refine aI hF O O O O (aj rfl) ae _ (yf 1 O QP O pF O) (fun a hF=>?_)
 refine aI hF O O O O (aj rfl) ae _ (cO (new:=[.int .i64 pa.2.v.k,.int .i64 pa.2.v.n,ak pa.2.v.t,.slice pa.2.sA pa.2.v.s.length pa.2.sC]) O hA6.q O 1 O Ku ai rfl) (fun a hF=>?_)
 refine aI hF O O O O (aj rfl) ae _ (yf 1 O QP O pF O) (fun a hF=>?_)
 refine aI hF O O O O (aj rfl) ae _ (cO (new:=[.int .i64 pb.2.v.k,.int .i64 pb.2.v.n,ak pb.2.v.t,.slice pb.2.sA pb.2.v.s.length pb.2.sC]) O hA6.q O 0 O Ku ai rfl) (fun a hF=>?_)
 refine dG hF O O O (aj rfl) (fun K hK=>ay hF O ae Fz rfl rfl ?_)
 with_reducible refine (Ih pa.2 pb.2 _ hV (List.Subset.trans hG (bJ (bJ (dD)))) hW (List.Subset.trans hH (bJ (bJ (dD)))) hA6).mono ?_
 rintro e' w7 ⟨rfl,hA8⟩
 refine ⟨_,rfl,fun a hF=>hK _ _ ?_⟩
 replace hA8:Hp w0 ([row b4 76 [ak pb.1,.int .i64 pb.2.v.k,.int .i64 pb.2.v.n,ak pb.2.v.t,.slice pb.2.sA pb.2.v.s.length pb.2.sC]]::[row b1 76 [ak pa.1,.int .i64 pa.2.v.k,.int .i64 pa.2.v.n,ak pa.2.v.t,.slice pa.2.sA pa.2.v.s.length pa.2.sC]]::R) w7:=hA8
 rw [decide_eq_true h2] at hF
 refine vR hF<|vV O (bg O O O O)<|vX O<|vE hK2 fun a hF=>?_
 apply wp_ret
 refine aO hF Tryz.results120 O ?_
 have hA9:Hp w0 (R) w7:=hpS 2 [] [0,1] hA8 rfl
 exact ⟨rfl,hA9⟩
abbrev uN (l:List (List UInt8 × VA)):List Value:=(l.map gz).flatten
set_option maxRecDepth 100000 in
set_option maxHeartbeats 8000000 in
theorem Ij {w0:World} {R:List Seg} {G H:List Seg} (A1:Option Addr) (b1:List (List UInt8 × VA)) (c1:Nat) (A2:Option Addr) (b2:List (List UInt8 × VA)) (c2:Nat) (w:World) (h1:Rc w0 G A1 (uN b1)) (h2:Rc w0 H A2 (uN b2)) (h3:∀ b∈b1,b.2.Ok w0 G) (h4:∀ b∈b2,b.2.Ok w0 H) (hE:(b1.map fun b=>(b.1,b.2.v))=b2.map fun b=>(b.1,b.2.v)) (hn:b1.length≤9223372036854775807) (hG:G⊆R) (hH:H⊆R) (hA:Hp w0 R w):Calls Tryz.prog 119 #[.slice A1 b1.length c1,.slice A2 b2.length c2,.func (.func 120) #[] #[]] w fun e w'=>e= .returned (.bool true)∧Hp w0 R w':=by
 have hlen:b1.length=b2.length:=by have:=congrArg List.length hE; rwa [List.length_map,List.length_map] at this
 refine aQ Tryz.func119 O Tryz.ntmps119 ai (fun a hF=>?_)
 refine wS hF fun K1 hK1=>vX O<|vE hK1<|wQ fun K2 hK2=>wT fun K3 hK3=>vX O<|vV O (aT O QQ O O)<|vX O<|vV O (aT O QQ O O)<|vV O (aJ O O O O (fK ag))<|vE hK3<|vF1 O<|wKp hK2<|wQ fun K4 hK4=>wT fun K5 hK5=>vX O<|vE hK5<|wBk fun a hF=>?_
 refine bG (G:=Nat) (fun i a x=>i≤b1.length∧Fr 30 [(7,.int .i64 ((i:Nat):Int)),(0,.slice A1 b1.length c1),(1,.slice A2 b2.length c2),(2,.func (.func 120) #[] #[])] a∧Hp w0 (R) x) (fun i=>b1.length-i) 0 (⟨Qs _,hF.keep [7,0,1,2] rfl,hA⟩) ?_
 clear hF
 rintro i a w2 ⟨hi,hF,hA1⟩
 apply wp_seq_k; intro K6 hK6
 refine wS hF fun K7 hK7=>vX O<|vX O<|vV O (aT O QQ O O)<|vV O (aJ O O O O O)<|vE hK7 fun a hF=>?_
 by_cases hlt:i<b1.length
 ·refine aG hF O (dA ag) ?_
  obtain ⟨pa,hppa⟩:∃ q,b1[i]? = some q:=⟨_,List.getElem?_eq_getElem hlt⟩
  obtain ⟨htpa,hlpa⟩:((uN b1).drop (i*5)).take 5=gz pa∧i*5+5≤(uN b1).length:=Go.Dk.flat_at (z:=5) (Ws:=b1.map gz) (V:=gz pa) (i:=i) (fun V hV=>by obtain ⟨u,_,rfl⟩:=List.mem_map.1 hV; rfl) (by rw [List.getElem?_map,hppa]; rfl)
  obtain ⟨bpa,opa,hspa,hcpa⟩:=h1.ne (i:=i*5) ag
  obtain ⟨pb,hppb⟩:∃ q,b2[i]? = some q:=⟨_,List.getElem?_eq_getElem (show i<b2.length by omega)⟩
  obtain ⟨htpb,hlpb⟩:((uN b2).drop (i*5)).take 5=gz pb∧i*5+5≤(uN b2).length:=Go.Dk.flat_at (z:=5) (Ws:=b2.map gz) (V:=gz pb) (i:=i) (fun V hV=>by obtain ⟨u,_,rfl⟩:=List.mem_map.1 hV; rfl) (by rw [List.getElem?_map,hppb]; rfl)
  obtain ⟨bpb,opb,hspb,hcpb⟩:=h2.ne (i:=i*5) ag
  have hab:(pa.1,pa.2.v)=(pb.1,pb.2.v):=by
   have q1:(b1.map fun b=>(b.1,b.2.v))[i]? = some (pa.1,pa.2.v):=by rw [List.getElem?_map,hppa]; rfl
   rw [hE,List.getElem?_map,hppb] at q1
   exact (Option.some.inj q1).symm
  rw [hspa,hspb] at hF
  apply wp_skip
  refine hK6 _ _ ?_
  apply wp_seq_k; intro K8 hK8
  apply wp_block
  apply wp_seq_k; intro K9 hK9
  refine aU 10 [9,10] [0,1,2,3,4,5,6,7,8,9,10] _ af af (Hq.drew hA1.q) ?_
  have hA3:=Hl.drew hA1
  refine pR hF<|pX O O<|pX O O<|pX O O<|pW O O (fun _=>bV O QQ pq O O i rfl ag rfl)<|pV O O (fun x hx=>jv (new:=gz pa) rfl (Hq.sub hx (List.Subset.trans hG (dD))) O hcpa (i*5) hlpa rfl htpa GX)<|pX O O<|pX O O<|pW O O (fun _=>bV O QQ pq O O i rfl ag rfl)<|pV O O (fun x hx=>jv (new:=gz pb) rfl (Hq.sub hx (List.Subset.trans hH (dD))) O hcpb (i*5) hlpb rfl htpb GX) fun a hF=>?_
  refine gG O O O (fun K hK=>yC hF O ae FI rfl rfl rfl ?_)
  with_reducible refine (Le pa pb _ (Prod.mk.inj hab).1 (Prod.mk.inj hab).2 (h3 _ (List.mem_of_getElem? hppa)) (List.Subset.trans hG (dD)) (h4 _ (List.mem_of_getElem? hppb)) (List.Subset.trans hH (dD)) hA3).mono ?_
  rintro e' w4 ⟨rfl,hA5⟩
  refine ⟨_,rfl,fun a hF=>hK _ _ (fun _=>?_) ?_⟩
  ·exact hA5.q
  replace hA5:Hp w0 (R) w4:=hA5
  refine gu hF O O O O ae _ (dI O O O) (fun h=>absurd h ae) (fun a hF=>?_)
  refine bP ?_
  refine hK9 _ _ ?_
  refine gU hF O ?_
  apply wp_skip
  refine hK8 _ _ ?_
  refine wp_region_lit ?_
  refine vR hF<|vX O<|vV O (bH O O O (Qu _ ag))<|vX O fun a hF=>?_
  refine aK ?_
  rw [← hspa,← hspb] at hF
  exact ⟨i+1,ag,ag,hF.keep [7,0,1,2] rfl,hA5⟩
 ·refine au hF O (dm ag) ?_
  apply wp_exit
  refine hK4 _ _ ?_
  refine wS hF fun K10 hK10=>vX O<|vE hK10 fun a hF=>?_
  apply wp_ret
  refine aO hF Tryz.results119 O ?_
  exact ⟨rfl,hA1⟩
theorem JO {c:CA} (h:c.ch.length=32):((c.cells).drop 3).take 32=dc c.ch:=by
 show (dc c.ch++c.tl).take 32=_
 rw [← h,← aN c.ch]
 exact List.take_left' rfl
def CEq (a b:CA):Prop:=a.name=b.name∧a.typ=b.typ∧a.cnt=b.cnt∧a.ch=b.ch∧a.bind=b.bind∧a.opn=b.opn∧a.clo=b.clo∧a.rea=b.rea
set_option maxRecDepth 100000 in
set_option maxHeartbeats 8000000 in
theorem Ld {w0:World} {R:List Seg} {G H:List Seg} (ca cb:CA) (w:World) (hE:CEq ca cb) (hC:ca.Ok w0 G) (hG:G⊆R) (hD:cb.Ok w0 H) (hH:H⊆R) (hA:Hp w0 R w):Calls Tryz.prog 59 #[.agg ca.cells.toArray,.agg cb.cells.toArray] w fun e w'=>e= .returned (.bool true)∧Hp w0 R w':=by
 obtain ⟨hE1,hE2,hE3,hE4,hE5,hE6,hE7,hE8⟩:=hE
 have h32:=hC.h32
 have h32b:=hD.h32
 have hvn:=hC.vn
 refine aQ Tryz.func59 O Tryz.ntmps59 ai (fun a hF=>?_)
 refine wp_seq_k fun K1 hK1=>wp_region_lit ?_
 refine ax O (fun K hK=>dL (cs:=ca.cells) hF O ae rfl hA O (fun b1 w2 a hb1 hF hA3=>hK _ _ ?_))
 refine ax O (fun K hK=>dL (cs:=cb.cells) hF O ae rfl hA3 O (fun b4 w5 a hb4 hF hA6=>hK _ _ ?_))
 refine vR hF<|vX O<|vE hK1<|wQ fun K2 hK2=>wT fun K3 hK3=>vV O (yf 0 O QL O xq O)<|vV O (aX (u:=ak ca.name) rfl hA6.q O 1 O O xM)<|vV O (yf 0 O QL O xq O)<|vV O (aX (u:=ak cb.name) rfl hA6.q O 0 O O xM)<|vV O (eF O O O O (yK hE1))<|vX O fun a hF=>?_
 refine aI hF O O O O (aj rfl) ae _ (yf 1 O QL O xq O) (fun a hF=>?_)
 refine aI hF O O O O (aj rfl) ae _ (aX (u:=ak ca.typ) rfl hA6.q O 1 O O xM) (fun a hF=>?_)
 refine aI hF O O O O (aj rfl) ae _ (yf 1 O QL O xq O) (fun a hF=>?_)
 refine aI hF O O O O (aj rfl) ae _ (aX (u:=ak cb.typ) rfl hA6.q O 0 O O xM) (fun a hF=>?_)
 refine aI hF O O O O (aj rfl) ae _ (eF O O O O (yK hE2)) (fun a hF=>?_)
 refine vR hF<|vV O (aV O O O O)<|vX O fun a hF=>?_
 refine aI hF O O O O (aj rfl) ae _ (yf 2 O QL O jC O) (fun a hF=>?_)
 refine aI hF O O O O (aj rfl) ae _ (aX (u:= .int .i64 ca.cnt) rfl hA6.q O 1 O O nJ) (fun a hF=>?_)
 refine aI hF O O O O (aj rfl) ae _ (yf 2 O QL O jC O) (fun a hF=>?_)
 refine aI hF O O O O (aj rfl) ae _ (aX (u:= .int .i64 cb.cnt) rfl hA6.q O 0 O O nJ) (fun a hF=>?_)
 refine aI hF O O O O (aj rfl) ae _ (aJ O O O O (fK hE3)) (fun a hF=>?_)
 refine vR hF<|vV O (aV O O O O)<|vX O fun a hF=>?_
 refine aI hF O O O O (aj rfl) ae _ (yf 3 O QL O CX O) (fun a hF=>?_)
 refine aI hF O O O O (aj rfl) ae _ (cO (new:=dc ca.ch) rfl hA6.q O 1 O Kt (by rw [dY h32]; exact Nat.le_of_ble_eq_true rfl) (JO h32)) (fun a hF=>?_)
 refine aI hF O O O O (aj rfl) ae _ (yf 3 O QL O CX O) (fun a hF=>?_)
 refine aI hF O O O O (aj rfl) ae _ (cO (new:=dc cb.ch) rfl hA6.q O 0 O Kt (by rw [dY h32b]; exact Nat.le_of_ble_eq_true rfl) (JO h32b)) (fun a hF=>?_)
 refine aI hF O O O O (aj rfl) ae _ (Nl (X:=ca.ch) (Y:=cb.ch) rfl QA QJ xu af rfl rfl h32 h32b (by rw [decide_eq_true hE4] <;> rfl)) (fun a hF=>?_)
 refine vR hF<|vV O (aV O O O O)<|vX O fun a hF=>?_
 refine aI hF O O O O (aj rfl) ae _ (yf 35 rfl QL O pz O) (fun a hF=>?_)
 refine aI hF O O O O (aj rfl) ae _ (aX (u:= .slice ca.vA ca.vals.length ca.vC) rfl hA6.q O 1 O (fB h32 0) pU) (fun a hF=>?_)
 refine aI hF O O O O (aj rfl) ae _ (yf 35 rfl QL O pz O) (fun a hF=>?_)
 refine aI hF O O O O (aj rfl) ae _ (aX (u:= .slice cb.vA cb.vals.length cb.vC) rfl hA6.q O 0 O (fB h32b 0) pU) (fun a hF=>?_)
 refine dG hF O O O (aj rfl) (fun K hK=>ay hF O ae FK rfl rfl ?_)
 with_reducible refine (Ij ca.vA ca.vals ca.vC cb.vA cb.vals cb.vC _ hC.vr hD.vr hC.vok hD.vok (by unfold CA.bind at hE5; exact hE5) hvn (List.Subset.trans hG (bJ (bJ (dD)))) (List.Subset.trans hH (bJ (bJ (dD)))) hA6).mono ?_
 rintro e' w7 ⟨rfl,hA8⟩
 refine ⟨_,rfl,fun a hF=>hK _ _ ?_⟩
 replace hA8:Hp w0 ([row b4 52 cb.cells]::[row b1 52 ca.cells]::R) w7:=hA8
 refine aI hF O O O O (aj rfl) ae _ (dI O O O) (fun a hF=>?_)
 refine vR hF<|vV O (aV O O O O)<|vE hK3<|vF1 O<|wKp hK2<|wT fun K4 hK4=>vV O (yf 36 rfl QL O nU O)<|vV O (aX (u:= .slice ca.oA ca.opn.length ca.oC) rfl hA8.q O 1 O (fB h32 1) nZ)<|vV O (yf 36 rfl QL O nU O)<|vV O (aX (u:= .slice cb.oA cb.opn.length cb.oC) rfl hA8.q O 0 O (fB h32b 1) nZ) fun a hF=>?_
 refine ax O (fun K hK=>ay hF O ae LX rfl rfl ?_)
 with_reducible refine (gY w0 _ ([row b4 52 cb.cells]::[row b1 52 ca.cells]::R) ca.oA cb.oA ca.opn cb.opn ca.oC cb.oC (hC.opr.mono (List.Subset.trans hG (bJ (bJ (dD))))) (hD.opr.mono (List.Subset.trans hH (bJ (bJ (dD))))) hA8 hC.opl).mono ?_
 rintro e' w9 ⟨rfl,hA10⟩
 refine ⟨_,rfl,fun a hF=>hK _ _ ?_⟩
 replace hA10:Hp w0 ([row b4 52 cb.cells]::[row b1 52 ca.cells]::R) w9:=hA10
 rw [decide_eq_true hE6] at hF
 refine vR hF<|vX O fun a hF=>?_
 refine aI hF O O O O (aj rfl) ae _ (yf 37 rfl QL O nU O) (fun a hF=>?_)
 refine aI hF O O O O (aj rfl) ae _ (aX (u:= .slice ca.cA ca.clo.length ca.cC) rfl hA10.q O 1 O (fB h32 2) nZ) (fun a hF=>?_)
 refine aI hF O O O O (aj rfl) ae _ (yf 37 rfl QL O nU O) (fun a hF=>?_)
 refine aI hF O O O O (aj rfl) ae _ (aX (u:= .slice cb.cA cb.clo.length cb.cC) rfl hA10.q O 0 O (fB h32b 2) nZ) (fun a hF=>?_)
 refine dG hF O O O (aj rfl) (fun K hK=>ay hF O ae LX rfl rfl ?_)
 with_reducible refine (gY w0 _ ([row b4 52 cb.cells]::[row b1 52 ca.cells]::R) ca.cA cb.cA ca.clo cb.clo ca.cC cb.cC (hC.clr.mono (List.Subset.trans hG (bJ (bJ (dD))))) (hD.clr.mono (List.Subset.trans hH (bJ (bJ (dD))))) hA10 hC.cll).mono ?_
 rintro e' w11 ⟨rfl,hA12⟩
 refine ⟨_,rfl,fun a hF=>hK _ _ ?_⟩
 replace hA12:Hp w0 ([row b4 52 cb.cells]::[row b1 52 ca.cells]::R) w11:=hA12
 rw [decide_eq_true hE7] at hF
 refine vR hF<|vV O (bg O O O O)<|vX O fun a hF=>?_
 refine aI hF O O O O (aj rfl) ae _ (yf 38 rfl QL O nU O) (fun a hF=>?_)
 refine aI hF O O O O (aj rfl) ae _ (aX (u:= .slice ca.rA ca.rea.length ca.rC) rfl hA12.q O 1 O (fB h32 3) nZ) (fun a hF=>?_)
 refine aI hF O O O O (aj rfl) ae _ (yf 38 rfl QL O nU O) (fun a hF=>?_)
 refine aI hF O O O O (aj rfl) ae _ (aX (u:= .slice cb.rA cb.rea.length cb.rC) rfl hA12.q O 0 O (fB h32b 3) nZ) (fun a hF=>?_)
 refine dG hF O O O (aj rfl) (fun K hK=>ay hF O ae LX rfl rfl ?_)
 with_reducible refine (gY w0 _ ([row b4 52 cb.cells]::[row b1 52 ca.cells]::R) ca.rA cb.rA ca.rea cb.rea ca.rC cb.rC (hC.rer.mono (List.Subset.trans hG (bJ (bJ (dD))))) (hD.rer.mono (List.Subset.trans hH (bJ (bJ (dD))))) hA12 hC.rel).mono ?_
 rintro e' w13 ⟨rfl,hA14⟩
 refine ⟨_,rfl,fun a hF=>hK _ _ ?_⟩
 replace hA14:Hp w0 ([row b4 52 cb.cells]::[row b1 52 ca.cells]::R) w13:=hA14
 rw [decide_eq_true hE8] at hF
 refine vR hF<|vV O (bg O O O O)<|vX O<|vE hK4 fun a hF=>?_
 apply wp_ret
 refine aO hF Tryz.results59 O ?_
 have hA15:Hp w0 (R) w13:=hpS 2 [] [0,1] hA14 rfl
 exact ⟨rfl,hA15⟩
theorem VA.Ok.mono1 {w0:World} {X Y:Seg} {a:VA} (h:a.Ok w0 [X]) (hs:X⊆Y):a.Ok w0 [Y]:=⟨h.rc.monoF (by simpa using hs),h.n,h.i⟩
theorem JP {w0:World} {X M:Seg} {ws:List (List UInt8 × VA)} {pu:List UInt8 × VA} (h:∀ b∈ws,b.2.Ok w0 [M]) (hv:pu.2.Ok w0 [X]):∀ b∈ws++[pu],b.2.Ok w0 [X++M]:=fun b hb=>by
 rcases List.mem_append.1 hb with hb | hb
 ·exact (h b hb).mono1 (List.subset_append_right _ _)
 ·rw [List.mem_singleton.1 hb]; exact hv.mono1 (List.subset_append_left _ _)
theorem pI (l:List (List UInt8)):∀ v∈l.map ak,v.oneCell'=true:=fun v hv=>by
 obtain ⟨s,_,rfl⟩:=List.mem_map.1 hv
 rfl
theorem Nc (b:List UInt8 × VA):∀ v∈gz b,v.oneCell'=true:=fun v hv=>by
 simp only [gz,VA.cells,Val.cells,List.mem_cons,List.not_mem_nil,or_false] at hv
 rcases hv with h | h | h | h | h <;> subst h <;> rfl
theorem I9 {c:CA}:∀ v∈c.cells,v.oneCell'=true:=fun v hv=>by
 rcases List.mem_append.1 hv with h | h
 ·simp only [List.mem_cons,List.not_mem_nil,or_false] at h
  rcases h with h | h | h <;> subst h <;> rfl
 ·rcases List.mem_append.1 h with h | h
  ·exact iR _ v h
  ·simp only [CA.tl,List.mem_cons,List.not_mem_nil,or_false] at h
   rcases h with h | h | h | h <;> subst h <;> rfl
theorem OH (p:List UInt8 × VA) (w:World):(Instr.buildSlice 50 1 #[(0,.agg (gz p).toArray)]).run Tryz.prog w= .ok (.slice (some ⟨w.heap.size,0,none⟩) 1 1) (w.alloc (.cells (gz p).toArray 76)):=af
theorem Ii:iJ Tryz.prog 76 5 72:=nO (z:= .agg ([ak [],.int .i64 0,.int .i64 0,ak [],.slice none 0 0]:List Value).toArray) af af
theorem mM {c:CA} (h:c.ch.length=32) {k:Nat} {v:Value}:c.cells.set (35+k) v=[ak c.name,ak c.typ,.int .i64 c.cnt]++(dc c.ch++c.tl.set k v):=by
 rw [CA.cells,List.set_append_right _ _ (by show 3≤35+k; omega),List.set_append_right _ _ (by rw [aN,h]; show 32≤35+k-3; omega),aN,h,show 35+k-[ak c.name,ak c.typ,Value.int .i64 c.cnt].length-32=k by show 35+k-3-32=k; omega]
set_option maxRecDepth 100000 in
set_option maxHeartbeats 8000000 in
theorem EU {w0:World} {R:List Seg} {G:List Seg} (ca:CA) (w:World) (hC:ca.Ok w0 G) (hvz:∀ b∈ca.vals,b.2.v.s.length<8796093022000) (hv72:ca.vals.length*72≤140737488351232) (hoz:ca.opn.length<8796093022000) (hcz:ca.clo.length<8796093022000) (hrz:ca.rea.length<8796093022000) (hG:G⊆R) (hA:Hp w0 R w):Calls Tryz.prog 55 #[.agg ca.cells.toArray] w fun e w'=>∃ (cb:CA) (Z:Seg),e= .returned (.agg cb.cells.toArray)∧CEq cb ca∧cb.Ok w0 [Z]∧cb.opn=ca.opn∧cb.clo=ca.clo∧cb.rea=ca.rea∧Hp w0 (Z::R) w':=by
 have h32:=hC.h32
 have hvn:=hC.vn
 refine aQ Tryz.func55 O Tryz.ntmps55 ai (fun a hF=>?_)
 refine wp_seq_k fun K1 hK1=>wp_region_lit ?_
 refine ax O (fun K hK=>dL (cs:=ca.cells) hF O ae rfl hA O (fun b1 w2 a hb1 hF hA3=>hK _ _ ?_))
 refine ax O (fun K hK=>dB hF O ae rfl hA3 (F9) (fun b4 w5 a hb4 hF hA6=>hK _ _ ?_))
 refine aK<|hK1 _ _ ?_
 refine wS hF fun K2 hK2=>vX O<|vE hK2<|wQ fun K3 hK3=>wT fun K4 hK4=>vX O<|vE hK4<|wBk fun a hF=>?_
 have hA7:Hp w0 (([]:Seg)::([]:Seg)::[row b4 52 [.string (⟨#[]⟩),.string (⟨#[]⟩),.int .i64 0,.int .u8 0,.int .u8 0,.int .u8 0,.int .u8 0,.int .u8 0,.int .u8 0,.int .u8 0,.int .u8 0,.int .u8 0,.int .u8 0,.int .u8 0,.int .u8 0,.int .u8 0,.int .u8 0,.int .u8 0,.int .u8 0,.int .u8 0,.int .u8 0,.int .u8 0,.int .u8 0,.int .u8 0,.int .u8 0,.int .u8 0,.int .u8 0,.int .u8 0,.int .u8 0,.int .u8 0,.int .u8 0,.int .u8 0,.int .u8 0,.int .u8 0,.int .u8 0,.slice none 0 0,.slice none 0 0,.slice none 0 0,.slice none 0 0]]::[row b1 52 ca.cells]::R) w5:=Hp.nil (Hp.nil hA6)
 refine bG (G:=Nat) (fun i a x=>∃ (ws:List (List UInt8 × VA)) (vL:Value) (M:Seg) (Y:Seg),i≤ca.vals.length∧((ws.map fun b=>(b.1,b.2.v))=(ca.vals.take i).map fun b=>(b.1,b.2.v))∧Buf 76 5 Y vL ws.length (uN ws)∧(∀ b∈ws,b.2.Ok w0 [M])∧Fr 43 [(3,vL),(4,.int .i64 ((i:Nat):Int)),(1,.pointer (some ⟨b1,0,none⟩)),(2,.pointer (some ⟨b4,0,none⟩))] a∧Hp w0 (M::Y::[row b4 52 [.string (⟨#[]⟩),.string (⟨#[]⟩),.int .i64 0,.int .u8 0,.int .u8 0,.int .u8 0,.int .u8 0,.int .u8 0,.int .u8 0,.int .u8 0,.int .u8 0,.int .u8 0,.int .u8 0,.int .u8 0,.int .u8 0,.int .u8 0,.int .u8 0,.int .u8 0,.int .u8 0,.int .u8 0,.int .u8 0,.int .u8 0,.int .u8 0,.int .u8 0,.int .u8 0,.int .u8 0,.int .u8 0,.int .u8 0,.int .u8 0,.int .u8 0,.int .u8 0,.int .u8 0,.int .u8 0,.int .u8 0,.int .u8 0,.slice none 0 0,.slice none 0 0,.slice none 0 0,.slice none 0 0]]::[row b1 52 ca.cells]::R) x) (fun i=>ca.vals.length-i) 0 (⟨[],_,[],[],Qs _,rfl,(Buf.nil _ _),(fun _ h=>absurd h (List.not_mem_nil)),hF.keep [3,4,1,2] rfl,hA7⟩) ?_
 clear hF
 rintro i a w9 ⟨ws,vL,M,Y,hi,hws,hY,hwo,hF,hA8⟩
 apply wp_seq_k; intro K5 hK5
 refine wS hF fun K6 hK6=>vX O<|vV O (yf 35 rfl QL O pz O)<|vV O (aX (u:= .slice ca.vA ca.vals.length ca.vC) rfl hA8.q O 3 O (fB h32 0) pU)<|vV O (aT O QQ O O)<|vV O (aJ O O O O O)<|vE hK6 fun a hF=>?_
 by_cases hlt:i<ca.vals.length
 ·refine aG hF O (dA ag) ?_
  have hwl:ws.length=i:=by have:=congrArg List.length hws; rw [List.length_map,List.length_map,List.length_take] at this; omega
  obtain ⟨pa,hppa⟩:∃ q,ca.vals[i]? = some q:=⟨_,List.getElem?_eq_getElem hlt⟩
  obtain ⟨htpa,hlpa⟩:((uN ca.vals).drop (i*5)).take 5=gz pa∧i*5+5≤(uN ca.vals).length:=Go.Dk.flat_at (z:=5) (Ws:=ca.vals.map gz) (V:=gz pa) (i:=i) (fun V hV=>by obtain ⟨u,_,rfl⟩:=List.mem_map.1 hV; rfl) (by rw [List.getElem?_map,hppa]; rfl)
  obtain ⟨bpa,opa,hspa,hcpa⟩:=(show Rc w0 G ca.vA (uN ca.vals) from hC.vr).ne (i:=i*5) ag
  have hva:=hC.vok _ (List.mem_of_getElem? hppa)
  have hvs:=hvz _ (List.mem_of_getElem? hppa)
  apply wp_skip
  refine hK5 _ _ ?_
  apply wp_seq_k; intro K7 hK7
  apply wp_block
  refine wS hF fun K8 hK8=>vV O (yf 35 rfl QL O pz O)<|vV O (aX (u:= .slice (some ⟨bpa,opa,none⟩) ca.vals.length ca.vC) rfl hA8.q O 3 O (by rw [← hspa]; exact fB h32 0) pU) fun a hF=>?_
  refine vR hF<|vX O<|vV O (bV O QQ pq O O i rfl hlt rfl)<|vV O (jv (new:=gz pa) rfl (Hq.sub hA8.q (List.Subset.trans hG (bJ (bJ (bJ (bJ (dD))))))) O hcpa (i*5) hlpa rfl htpa GX) fun a hF=>?_
  refine ax O (fun K hK=>dB hF O ae rfl hA8 (F8) (fun b10 w11 a hb10 hF hA12=>hK _ _ ?_))
  refine ax O (fun K hK=>bu (new:=[ak pa.1,.int .i64 pa.2.v.k,.int .i64 pa.2.v.n,ak pa.2.v.t,.slice pa.2.sA pa.2.v.s.length pa.2.sC]) hF O O hA12 O O 0 O O (by simp [Value.oneCell']) pq (fun w13 hA14=>hK _ _ ?_))
  replace hA14:Hp w0 ([row b10 76 [ak pa.1,.int .i64 pa.2.v.k,.int .i64 pa.2.v.n,ak pa.2.v.t,.slice pa.2.sA pa.2.v.s.length pa.2.sC]]::M::Y::[row b4 52 [.string (⟨#[]⟩),.string (⟨#[]⟩),.int .i64 0,.int .u8 0,.int .u8 0,.int .u8 0,.int .u8 0,.int .u8 0,.int .u8 0,.int .u8 0,.int .u8 0,.int .u8 0,.int .u8 0,.int .u8 0,.int .u8 0,.int .u8 0,.int .u8 0,.int .u8 0,.int .u8 0,.int .u8 0,.int .u8 0,.int .u8 0,.int .u8 0,.int .u8 0,.int .u8 0,.int .u8 0,.int .u8 0,.int .u8 0,.int .u8 0,.int .u8 0,.int .u8 0,.int .u8 0,.int .u8 0,.int .u8 0,.int .u8 0,.slice none 0 0,.slice none 0 0,.slice none 0 0,.slice none 0 0]]::[row b1 52 ca.cells]::R) w13:=hA14
  refine aK<|hK8 _ _ ?_
  refine wS hF fun K9 hK9=>vV O (yf 1 O QP O pF O)<|vV O (yf 4 O QE O nU O)<|vV O (aX O hA14.q O 0 O O nZ) fun a hF=>?_
  have hA15:Hp w0 (([]:Seg)::[row b10 76 [ak pa.1,.int .i64 pa.2.v.k,.int .i64 pa.2.v.n,ak pa.2.v.t,.slice pa.2.sA pa.2.v.s.length pa.2.sC]]::M::Y::[row b4 52 [.string (⟨#[]⟩),.string (⟨#[]⟩),.int .i64 0,.int .u8 0,.int .u8 0,.int .u8 0,.int .u8 0,.int .u8 0,.int .u8 0,.int .u8 0,.int .u8 0,.int .u8 0,.int .u8 0,.int .u8 0,.int .u8 0,.int .u8 0,.int .u8 0,.int .u8 0,.int .u8 0,.int .u8 0,.int .u8 0,.int .u8 0,.int .u8 0,.int .u8 0,.int .u8 0,.int .u8 0,.int .u8 0,.int .u8 0,.int .u8 0,.int .u8 0,.int .u8 0,.int .u8 0,.int .u8 0,.int .u8 0,.int .u8 0,.slice none 0 0,.slice none 0 0,.slice none 0 0,.slice none 0 0]]::[row b1 52 ca.cells]::R) w13:=Hp.nil hA14
  refine ax O (fun K hK=>bM hF O ae rfl hA15 0 O (Buf.nil 9 1) Qr lL rfl rfl (Rc.srcC (size:=1) (m:=pa.2.v.s.length) hva.rc (Hq.sub hA15.q (List.Subset.trans hG (bJ (bJ (bJ (bJ (bJ (bJ (dD))))))))) Qr ae (by rw [List.length_map,Nat.mul_one]) (pI _)) ag ae (fun v2 X2 w16 a hO2 hF hA17=>hK _ _ ?_))
  replace hA17:Hp w0 (X2::[row b10 76 [ak pa.1,.int .i64 pa.2.v.k,.int .i64 pa.2.v.n,ak pa.2.v.t,.slice pa.2.sA pa.2.v.s.length pa.2.sC]]::M::Y::[row b4 52 [.string (⟨#[]⟩),.string (⟨#[]⟩),.int .i64 0,.int .u8 0,.int .u8 0,.int .u8 0,.int .u8 0,.int .u8 0,.int .u8 0,.int .u8 0,.int .u8 0,.int .u8 0,.int .u8 0,.int .u8 0,.int .u8 0,.int .u8 0,.int .u8 0,.int .u8 0,.int .u8 0,.int .u8 0,.int .u8 0,.int .u8 0,.int .u8 0,.int .u8 0,.int .u8 0,.int .u8 0,.int .u8 0,.int .u8 0,.int .u8 0,.int .u8 0,.int .u8 0,.int .u8 0,.int .u8 0,.int .u8 0,.int .u8 0,.slice none 0 0,.slice none 0 0,.slice none 0 0,.slice none 0 0]]::[row b1 52 ca.cells]::R) w16:=hA17
  rw [List.nil_append,Nat.zero_add] at hO2
  obtain ⟨A2,c2,rfl,hc2,hR2⟩:=hO2.rc (w0:=w0) (R:=[X2]) (Qx ..)
  refine vR hF<|vV O (yf 1 O QP O pF O)<|vV O (yf 4 O QE O nU O) fun a hF=>?_
  refine ax O (fun K hK=>bW hF O O hA17 O O 1 O (by simp) rfl nU (fun w18 hA19=>hK _ _ ?_))
  replace hA19:Hp w0 (X2::[row b10 76 [ak pa.1,.int .i64 pa.2.v.k,.int .i64 pa.2.v.n,ak pa.2.v.t,.slice A2 pa.2.v.s.length c2]]::M::Y::[row b4 52 [.string (⟨#[]⟩),.string (⟨#[]⟩),.int .i64 0,.int .u8 0,.int .u8 0,.int .u8 0,.int .u8 0,.int .u8 0,.int .u8 0,.int .u8 0,.int .u8 0,.int .u8 0,.int .u8 0,.int .u8 0,.int .u8 0,.int .u8 0,.int .u8 0,.int .u8 0,.int .u8 0,.int .u8 0,.int .u8 0,.int .u8 0,.int .u8 0,.int .u8 0,.int .u8 0,.int .u8 0,.int .u8 0,.int .u8 0,.int .u8 0,.int .u8 0,.int .u8 0,.int .u8 0,.int .u8 0,.int .u8 0,.int .u8 0,.slice none 0 0,.slice none 0 0,.slice none 0 0,.slice none 0 0]]::[row b1 52 ca.cells]::R) w18:=hA19
  refine aK<|hK9 _ _ ?_
  obtain ⟨pu,hpu⟩:∃ q:List UInt8 × VA,q=(pa.1,⟨pa.2.v,A2,c2⟩):=⟨_,rfl⟩
  have hA20:Hp w0 (X2::[row b10 76 (gz pu)]::M::Y::[row b4 52 [.string (⟨#[]⟩),.string (⟨#[]⟩),.int .i64 0,.int .u8 0,.int .u8 0,.int .u8 0,.int .u8 0,.int .u8 0,.int .u8 0,.int .u8 0,.int .u8 0,.int .u8 0,.int .u8 0,.int .u8 0,.int .u8 0,.int .u8 0,.int .u8 0,.int .u8 0,.int .u8 0,.int .u8 0,.int .u8 0,.int .u8 0,.int .u8 0,.int .u8 0,.int .u8 0,.int .u8 0,.int .u8 0,.int .u8 0,.int .u8 0,.int .u8 0,.int .u8 0,.int .u8 0,.int .u8 0,.int .u8 0,.int .u8 0,.slice none 0 0,.slice none 0 0,.slice none 0 0,.slice none 0 0]]::[row b1 52 ca.cells]::R) w18:=(by rw [hpu]; exact hA19)
  refine wp_region_lit ?_
  refine vR hF<|vX O<|vV O (cO (new:=gz pu) rfl hA20.q O 1 O GX ai rfl) fun a hF=>?_
  refine ax O (fun K hK=>wF (qs := #[(0,.agg (gz pu).toArray)]) (cells:=(gz pu).toArray) hF O ae rfl hA20 O (OH pu) (fun b21 w22 a hb21 hF hA23=>hK _ _ ?_))
  refine ax O (fun K hK=>bM hF O ae rfl hA23 4 O hY QQ Ii rfl rfl (Rc.srcC (W:=gz pu) (m:=1) (size:=5) (R:=[row b21 76 (gz pu)]::X2::[row b10 76 (gz pu)]::M::Y::[row b4 52 [.string (⟨#[]⟩),.string (⟨#[]⟩),.int .i64 0,.int .u8 0,.int .u8 0,.int .u8 0,.int .u8 0,.int .u8 0,.int .u8 0,.int .u8 0,.int .u8 0,.int .u8 0,.int .u8 0,.int .u8 0,.int .u8 0,.int .u8 0,.int .u8 0,.int .u8 0,.int .u8 0,.int .u8 0,.int .u8 0,.int .u8 0,.int .u8 0,.int .u8 0,.int .u8 0,.int .u8 0,.int .u8 0,.int .u8 0,.int .u8 0,.int .u8 0,.int .u8 0,.int .u8 0,.int .u8 0,.int .u8 0,.int .u8 0,.slice none 0 0,.slice none 0 0,.slice none 0 0,.slice none 0 0]]::[row b1 52 ca.cells]::R) (Rc.ofRow (i:=0) (off:=0) rfl rfl) hA23.q QQ ae rfl (Nc pu)) ag ae (fun v3 X3 w24 a hY3 hF hA25=>hK _ _ ?_))
  replace hA25:Hp w0 ([row b21 76 (gz pu)]::X2::[row b10 76 (gz pu)]::M::X3::[row b4 52 [.string (⟨#[]⟩),.string (⟨#[]⟩),.int .i64 0,.int .u8 0,.int .u8 0,.int .u8 0,.int .u8 0,.int .u8 0,.int .u8 0,.int .u8 0,.int .u8 0,.int .u8 0,.int .u8 0,.int .u8 0,.int .u8 0,.int .u8 0,.int .u8 0,.int .u8 0,.int .u8 0,.int .u8 0,.int .u8 0,.int .u8 0,.int .u8 0,.int .u8 0,.int .u8 0,.int .u8 0,.int .u8 0,.int .u8 0,.int .u8 0,.int .u8 0,.int .u8 0,.int .u8 0,.int .u8 0,.int .u8 0,.int .u8 0,.slice none 0 0,.slice none 0 0,.slice none 0 0,.slice none 0 0]]::[row b1 52 ca.cells]::R) w24:=hA25
  refine vR hF<|vX O fun a hF=>aK<|hK7 _ _ ?_
  refine wp_region_lit ?_
  refine vR hF<|vX O<|vV O (bH O O O (Qu _ ag))<|vX O fun a hF=>?_
  refine aK ?_
  have hA26:Hp w0 (X2::M::[row b21 76 (gz pu)]::[row b10 76 (gz pu)]::X3::[row b4 52 [.string (⟨#[]⟩),.string (⟨#[]⟩),.int .i64 0,.int .u8 0,.int .u8 0,.int .u8 0,.int .u8 0,.int .u8 0,.int .u8 0,.int .u8 0,.int .u8 0,.int .u8 0,.int .u8 0,.int .u8 0,.int .u8 0,.int .u8 0,.int .u8 0,.int .u8 0,.int .u8 0,.int .u8 0,.int .u8 0,.int .u8 0,.int .u8 0,.int .u8 0,.int .u8 0,.int .u8 0,.int .u8 0,.int .u8 0,.int .u8 0,.int .u8 0,.int .u8 0,.int .u8 0,.int .u8 0,.int .u8 0,.int .u8 0,.slice none 0 0,.slice none 0 0,.slice none 0 0,.slice none 0 0]]::[row b1 52 ca.cells]::R) w24:=hpO 7 [1,3,0,2,4,5,6] hA25 rfl
  have hA27:Hp w0 ((X2++M)::[row b21 76 (gz pu)]::[row b10 76 (gz pu)]::X3::[row b4 52 [.string (⟨#[]⟩),.string (⟨#[]⟩),.int .i64 0,.int .u8 0,.int .u8 0,.int .u8 0,.int .u8 0,.int .u8 0,.int .u8 0,.int .u8 0,.int .u8 0,.int .u8 0,.int .u8 0,.int .u8 0,.int .u8 0,.int .u8 0,.int .u8 0,.int .u8 0,.int .u8 0,.int .u8 0,.int .u8 0,.int .u8 0,.int .u8 0,.int .u8 0,.int .u8 0,.int .u8 0,.int .u8 0,.int .u8 0,.int .u8 0,.int .u8 0,.int .u8 0,.int .u8 0,.int .u8 0,.int .u8 0,.int .u8 0,.slice none 0 0,.slice none 0 0,.slice none 0 0,.slice none 0 0]]::[row b1 52 ca.cells]::R) w24:=Hp.join hA26
  have hA28:Hp w0 ((X2++M)::X3::[row b4 52 [.string (⟨#[]⟩),.string (⟨#[]⟩),.int .i64 0,.int .u8 0,.int .u8 0,.int .u8 0,.int .u8 0,.int .u8 0,.int .u8 0,.int .u8 0,.int .u8 0,.int .u8 0,.int .u8 0,.int .u8 0,.int .u8 0,.int .u8 0,.int .u8 0,.int .u8 0,.int .u8 0,.int .u8 0,.int .u8 0,.int .u8 0,.int .u8 0,.int .u8 0,.int .u8 0,.int .u8 0,.int .u8 0,.int .u8 0,.int .u8 0,.int .u8 0,.int .u8 0,.int .u8 0,.int .u8 0,.int .u8 0,.int .u8 0,.slice none 0 0,.slice none 0 0,.slice none 0 0,.slice none 0 0]]::[row b1 52 ca.cells]::R) w24:=hpS 6 [0,3,4,5] [1,2] hA27 rfl
  exact ⟨i+1,ag,ws++[pu],_,_,_,ag,by rw [List.map_append,hws,List.take_add_one,hppa,hpu]; simp,by rw [List.length_append,uN,List.map_append,List.flatten_append]; simpa using hY3,JP hwo (by rw [hpu]; exact ⟨hR2,hva.n,hva.i⟩),hF.keep [3,4,1,2] rfl,hA28⟩
 ·refine au hF O (dm ag) ?_
  obtain rfl:i=ca.vals.length:=by omega
  rw [List.take_length] at hws
  have hwl:ws.length=ca.vals.length:=by have:=congrArg List.length hws; rwa [List.length_map,List.length_map] at this
  obtain ⟨vA,vC,rfl,_,hRv⟩:=hY.rc (w0:=w0) (R:=[Y]) (Qx ..)
  apply wp_exit
  refine hK3 _ _ ?_
  refine wS hF fun K10 hK10=>vX O<|vV O (yf 35 rfl QL O pz O) fun a hF=>?_
  refine ax O (fun K hK=>bW (off:=35+0) hF O O hA8 O O 3 O (by rw [dY h32]; decide) rfl pz (fun w29 hA30=>hK _ _ ?_))
  replace hA30:Hp w0 (M::Y::[row b4 52 [.string (⟨#[]⟩),.string (⟨#[]⟩),.int .i64 0,.int .u8 0,.int .u8 0,.int .u8 0,.int .u8 0,.int .u8 0,.int .u8 0,.int .u8 0,.int .u8 0,.int .u8 0,.int .u8 0,.int .u8 0,.int .u8 0,.int .u8 0,.int .u8 0,.int .u8 0,.int .u8 0,.int .u8 0,.int .u8 0,.int .u8 0,.int .u8 0,.int .u8 0,.int .u8 0,.int .u8 0,.int .u8 0,.int .u8 0,.int .u8 0,.int .u8 0,.int .u8 0,.int .u8 0,.int .u8 0,.int .u8 0,.int .u8 0,.slice none 0 0,.slice none 0 0,.slice none 0 0,.slice none 0 0]]::[row b1 52 (ca.cells.set (35+0) (.slice vA ws.length vC))]::R) w29:=hA30
  obtain ⟨c10,hc10⟩:∃ q:CA,q=⟨ca.name,ca.typ,ca.cnt,ca.ch,ws,vA,vC,ca.opn,ca.oA,ca.oC,ca.clo,ca.cA,ca.cC,ca.rea,ca.rA,ca.rC⟩:=⟨_,rfl⟩
  have h32_0:c10.ch.length=32:=by rw [hc10]; exact h32
  have hA31:Hp w0 (M::Y::[row b4 52 [.string (⟨#[]⟩),.string (⟨#[]⟩),.int .i64 0,.int .u8 0,.int .u8 0,.int .u8 0,.int .u8 0,.int .u8 0,.int .u8 0,.int .u8 0,.int .u8 0,.int .u8 0,.int .u8 0,.int .u8 0,.int .u8 0,.int .u8 0,.int .u8 0,.int .u8 0,.int .u8 0,.int .u8 0,.int .u8 0,.int .u8 0,.int .u8 0,.int .u8 0,.int .u8 0,.int .u8 0,.int .u8 0,.int .u8 0,.int .u8 0,.int .u8 0,.int .u8 0,.int .u8 0,.int .u8 0,.int .u8 0,.int .u8 0,.slice none 0 0,.slice none 0 0,.slice none 0 0,.slice none 0 0]]::[row b1 52 c10.cells]::R) w29:=(by have h9:=hA30; rw [mM h32] at h9; rw [hc10]; exact h9)
  refine aK<|hK10 _ _ ?_
  refine wS hF fun K11 hK11=>vV O (yf 36 rfl QL O nU O) fun a hF=>?_
  have hld1:c10.cells[35+1]? = some (.slice ca.oA ca.opn.length ca.oC):=by rw [fB h32_0 1,hc10]; rfl
  refine vR hF<|vV O (aX (off:=35+1) (u:= .slice ca.oA ca.opn.length ca.oC) rfl hA31.q O 3 O hld1 nZ) fun a hF=>?_
  have hA32:Hp w0 (([]:Seg)::M::Y::[row b4 52 [.string (⟨#[]⟩),.string (⟨#[]⟩),.int .i64 0,.int .u8 0,.int .u8 0,.int .u8 0,.int .u8 0,.int .u8 0,.int .u8 0,.int .u8 0,.int .u8 0,.int .u8 0,.int .u8 0,.int .u8 0,.int .u8 0,.int .u8 0,.int .u8 0,.int .u8 0,.int .u8 0,.int .u8 0,.int .u8 0,.int .u8 0,.int .u8 0,.int .u8 0,.int .u8 0,.int .u8 0,.int .u8 0,.int .u8 0,.int .u8 0,.int .u8 0,.int .u8 0,.int .u8 0,.int .u8 0,.int .u8 0,.int .u8 0,.slice none 0 0,.slice none 0 0,.slice none 0 0,.slice none 0 0]]::[row b1 52 c10.cells]::R) w29:=Hp.nil hA31
  refine ax O (fun K hK=>bM hF O ae rfl hA32 0 O (Buf.nil 9 1) Qr lL rfl rfl (Rc.srcC (size:=1) (m:=ca.opn.length) hC.opr (Hq.sub hA32.q (List.Subset.trans hG (bJ (bJ (bJ (bJ (bJ (dD)))))))) Qr ae (by rw [List.length_map,Nat.mul_one]) (pI _)) ag ae (fun w51 X51 w33 a hP1 hF hA34=>hK _ _ ?_))
  replace hA34:Hp w0 (X51::M::Y::[row b4 52 [.string (⟨#[]⟩),.string (⟨#[]⟩),.int .i64 0,.int .u8 0,.int .u8 0,.int .u8 0,.int .u8 0,.int .u8 0,.int .u8 0,.int .u8 0,.int .u8 0,.int .u8 0,.int .u8 0,.int .u8 0,.int .u8 0,.int .u8 0,.int .u8 0,.int .u8 0,.int .u8 0,.int .u8 0,.int .u8 0,.int .u8 0,.int .u8 0,.int .u8 0,.int .u8 0,.int .u8 0,.int .u8 0,.int .u8 0,.int .u8 0,.int .u8 0,.int .u8 0,.int .u8 0,.int .u8 0,.int .u8 0,.int .u8 0,.slice none 0 0,.slice none 0 0,.slice none 0 0,.slice none 0 0]]::[row b1 52 c10.cells]::R) w33:=hA34
  rw [List.nil_append,Nat.zero_add] at hP1
  obtain ⟨AP1,cP1,rfl,hcP1,hRP1⟩:=hP1.rc (w0:=w0) (R:=[X51]) (Qx ..)
  refine vR hF<|vV O (yf 36 rfl QL O nU O) fun a hF=>?_
  refine ax O (fun K hK=>bW (off:=35+1) hF O O hA34 O O 4 O (by rw [dY h32_0]; decide) rfl nU (fun w35 hA36=>hK _ _ ?_))
  replace hA36:Hp w0 (X51::M::Y::[row b4 52 [.string (⟨#[]⟩),.string (⟨#[]⟩),.int .i64 0,.int .u8 0,.int .u8 0,.int .u8 0,.int .u8 0,.int .u8 0,.int .u8 0,.int .u8 0,.int .u8 0,.int .u8 0,.int .u8 0,.int .u8 0,.int .u8 0,.int .u8 0,.int .u8 0,.int .u8 0,.int .u8 0,.int .u8 0,.int .u8 0,.int .u8 0,.int .u8 0,.int .u8 0,.int .u8 0,.int .u8 0,.int .u8 0,.int .u8 0,.int .u8 0,.int .u8 0,.int .u8 0,.int .u8 0,.int .u8 0,.int .u8 0,.int .u8 0,.slice none 0 0,.slice none 0 0,.slice none 0 0,.slice none 0 0]]::[row b1 52 (c10.cells.set (35+1) (.slice AP1 ca.opn.length cP1))]::R) w35:=hA36
  obtain ⟨c11,hc11⟩:∃ q:CA,q=⟨c10.name,c10.typ,c10.cnt,c10.ch,c10.vals,c10.vA,c10.vC,ca.opn,AP1,cP1,c10.clo,c10.cA,c10.cC,c10.rea,c10.rA,c10.rC⟩:=⟨_,rfl⟩
  have h32_1:c11.ch.length=32:=by rw [hc11]; exact h32_0
  have hA37:Hp w0 (X51::M::Y::[row b4 52 [.string (⟨#[]⟩),.string (⟨#[]⟩),.int .i64 0,.int .u8 0,.int .u8 0,.int .u8 0,.int .u8 0,.int .u8 0,.int .u8 0,.int .u8 0,.int .u8 0,.int .u8 0,.int .u8 0,.int .u8 0,.int .u8 0,.int .u8 0,.int .u8 0,.int .u8 0,.int .u8 0,.int .u8 0,.int .u8 0,.int .u8 0,.int .u8 0,.int .u8 0,.int .u8 0,.int .u8 0,.int .u8 0,.int .u8 0,.int .u8 0,.int .u8 0,.int .u8 0,.int .u8 0,.int .u8 0,.int .u8 0,.int .u8 0,.slice none 0 0,.slice none 0 0,.slice none 0 0,.slice none 0 0]]::[row b1 52 c11.cells]::R) w35:=(by have h9:=hA36; rw [mM h32_0] at h9; rw [hc11]; exact h9)
  refine aK<|hK11 _ _ ?_
  refine wS hF fun K12 hK12=>vV O (yf 37 rfl QL O nU O) fun a hF=>?_
  have hld2:c11.cells[35+2]? = some (.slice ca.cA ca.clo.length ca.cC):=by rw [fB h32_1 2,hc11,hc10]; rfl
  refine vR hF<|vV O (aX (off:=35+2) (u:= .slice ca.cA ca.clo.length ca.cC) rfl hA37.q O 4 O hld2 nZ) fun a hF=>?_
  have hA38:Hp w0 (([]:Seg)::X51::M::Y::[row b4 52 [.string (⟨#[]⟩),.string (⟨#[]⟩),.int .i64 0,.int .u8 0,.int .u8 0,.int .u8 0,.int .u8 0,.int .u8 0,.int .u8 0,.int .u8 0,.int .u8 0,.int .u8 0,.int .u8 0,.int .u8 0,.int .u8 0,.int .u8 0,.int .u8 0,.int .u8 0,.int .u8 0,.int .u8 0,.int .u8 0,.int .u8 0,.int .u8 0,.int .u8 0,.int .u8 0,.int .u8 0,.int .u8 0,.int .u8 0,.int .u8 0,.int .u8 0,.int .u8 0,.int .u8 0,.int .u8 0,.int .u8 0,.int .u8 0,.slice none 0 0,.slice none 0 0,.slice none 0 0,.slice none 0 0]]::[row b1 52 c11.cells]::R) w35:=Hp.nil hA37
  refine ax O (fun K hK=>bM hF O ae rfl hA38 0 O (Buf.nil 9 1) Qr lL rfl rfl (Rc.srcC (size:=1) (m:=ca.clo.length) hC.clr (Hq.sub hA38.q (List.Subset.trans hG (bJ (bJ (bJ (bJ (bJ (bJ (dD))))))))) Qr ae (by rw [List.length_map,Nat.mul_one]) (pI _)) ag ae (fun w52 X52 w39 a hP2 hF hA40=>hK _ _ ?_))
  replace hA40:Hp w0 (X52::X51::M::Y::[row b4 52 [.string (⟨#[]⟩),.string (⟨#[]⟩),.int .i64 0,.int .u8 0,.int .u8 0,.int .u8 0,.int .u8 0,.int .u8 0,.int .u8 0,.int .u8 0,.int .u8 0,.int .u8 0,.int .u8 0,.int .u8 0,.int .u8 0,.int .u8 0,.int .u8 0,.int .u8 0,.int .u8 0,.int .u8 0,.int .u8 0,.int .u8 0,.int .u8 0,.int .u8 0,.int .u8 0,.int .u8 0,.int .u8 0,.int .u8 0,.int .u8 0,.int .u8 0,.int .u8 0,.int .u8 0,.int .u8 0,.int .u8 0,.int .u8 0,.slice none 0 0,.slice none 0 0,.slice none 0 0,.slice none 0 0]]::[row b1 52 c11.cells]::R) w39:=hA40
  rw [List.nil_append,Nat.zero_add] at hP2
  obtain ⟨AP2,cP2,rfl,hcP2,hRP2⟩:=hP2.rc (w0:=w0) (R:=[X52]) (Qx ..)
  refine vR hF<|vV O (yf 37 rfl QL O nU O) fun a hF=>?_
  refine ax O (fun K hK=>bW (off:=35+2) hF O O hA40 O O 5 O (by rw [dY h32_1]; decide) rfl nU (fun w41 hA42=>hK _ _ ?_))
  replace hA42:Hp w0 (X52::X51::M::Y::[row b4 52 [.string (⟨#[]⟩),.string (⟨#[]⟩),.int .i64 0,.int .u8 0,.int .u8 0,.int .u8 0,.int .u8 0,.int .u8 0,.int .u8 0,.int .u8 0,.int .u8 0,.int .u8 0,.int .u8 0,.int .u8 0,.int .u8 0,.int .u8 0,.int .u8 0,.int .u8 0,.int .u8 0,.int .u8 0,.int .u8 0,.int .u8 0,.int .u8 0,.int .u8 0,.int .u8 0,.int .u8 0,.int .u8 0,.int .u8 0,.int .u8 0,.int .u8 0,.int .u8 0,.int .u8 0,.int .u8 0,.int .u8 0,.int .u8 0,.slice none 0 0,.slice none 0 0,.slice none 0 0,.slice none 0 0]]::[row b1 52 (c11.cells.set (35+2) (.slice AP2 ca.clo.length cP2))]::R) w41:=hA42
  obtain ⟨c12,hc12⟩:∃ q:CA,q=⟨c11.name,c11.typ,c11.cnt,c11.ch,c11.vals,c11.vA,c11.vC,c11.opn,c11.oA,c11.oC,ca.clo,AP2,cP2,c11.rea,c11.rA,c11.rC⟩:=⟨_,rfl⟩
  have h32_2:c12.ch.length=32:=by rw [hc12]; exact h32_1
  have hA43:Hp w0 (X52::X51::M::Y::[row b4 52 [.string (⟨#[]⟩),.string (⟨#[]⟩),.int .i64 0,.int .u8 0,.int .u8 0,.int .u8 0,.int .u8 0,.int .u8 0,.int .u8 0,.int .u8 0,.int .u8 0,.int .u8 0,.int .u8 0,.int .u8 0,.int .u8 0,.int .u8 0,.int .u8 0,.int .u8 0,.int .u8 0,.int .u8 0,.int .u8 0,.int .u8 0,.int .u8 0,.int .u8 0,.int .u8 0,.int .u8 0,.int .u8 0,.int .u8 0,.int .u8 0,.int .u8 0,.int .u8 0,.int .u8 0,.int .u8 0,.int .u8 0,.int .u8 0,.slice none 0 0,.slice none 0 0,.slice none 0 0,.slice none 0 0]]::[row b1 52 c12.cells]::R) w41:=(by have h9:=hA42; rw [mM h32_1] at h9; rw [hc12]; exact h9)
  refine aK<|hK12 _ _ ?_
  refine wS hF fun K13 hK13=>vV O (yf 38 rfl QL O nU O) fun a hF=>?_
  have hld3:c12.cells[35+3]? = some (.slice ca.rA ca.rea.length ca.rC):=by rw [fB h32_2 3,hc12,hc11,hc10]; rfl
  refine vR hF<|vV O (aX (off:=35+3) (u:= .slice ca.rA ca.rea.length ca.rC) rfl hA43.q O 5 O hld3 nZ) fun a hF=>?_
  have hA44:Hp w0 (([]:Seg)::X52::X51::M::Y::[row b4 52 [.string (⟨#[]⟩),.string (⟨#[]⟩),.int .i64 0,.int .u8 0,.int .u8 0,.int .u8 0,.int .u8 0,.int .u8 0,.int .u8 0,.int .u8 0,.int .u8 0,.int .u8 0,.int .u8 0,.int .u8 0,.int .u8 0,.int .u8 0,.int .u8 0,.int .u8 0,.int .u8 0,.int .u8 0,.int .u8 0,.int .u8 0,.int .u8 0,.int .u8 0,.int .u8 0,.int .u8 0,.int .u8 0,.int .u8 0,.int .u8 0,.int .u8 0,.int .u8 0,.int .u8 0,.int .u8 0,.int .u8 0,.int .u8 0,.slice none 0 0,.slice none 0 0,.slice none 0 0,.slice none 0 0]]::[row b1 52 c12.cells]::R) w41:=Hp.nil hA43
  refine ax O (fun K hK=>bM hF O ae rfl hA44 0 O (Buf.nil 9 1) Qr lL rfl rfl (Rc.srcC (size:=1) (m:=ca.rea.length) hC.rer (Hq.sub hA44.q (List.Subset.trans hG (bJ (bJ (bJ (bJ (bJ (bJ (bJ (dD)))))))))) Qr ae (by rw [List.length_map,Nat.mul_one]) (pI _)) ag ae (fun w53 X53 w45 a hP3 hF hA46=>hK _ _ ?_))
  replace hA46:Hp w0 (X53::X52::X51::M::Y::[row b4 52 [.string (⟨#[]⟩),.string (⟨#[]⟩),.int .i64 0,.int .u8 0,.int .u8 0,.int .u8 0,.int .u8 0,.int .u8 0,.int .u8 0,.int .u8 0,.int .u8 0,.int .u8 0,.int .u8 0,.int .u8 0,.int .u8 0,.int .u8 0,.int .u8 0,.int .u8 0,.int .u8 0,.int .u8 0,.int .u8 0,.int .u8 0,.int .u8 0,.int .u8 0,.int .u8 0,.int .u8 0,.int .u8 0,.int .u8 0,.int .u8 0,.int .u8 0,.int .u8 0,.int .u8 0,.int .u8 0,.int .u8 0,.int .u8 0,.slice none 0 0,.slice none 0 0,.slice none 0 0,.slice none 0 0]]::[row b1 52 c12.cells]::R) w45:=hA46
  rw [List.nil_append,Nat.zero_add] at hP3
  obtain ⟨AP3,cP3,rfl,hcP3,hRP3⟩:=hP3.rc (w0:=w0) (R:=[X53]) (Qx ..)
  refine vR hF<|vV O (yf 38 rfl QL O nU O) fun a hF=>?_
  refine ax O (fun K hK=>bW (off:=35+3) hF O O hA46 O O 6 O (by rw [dY h32_2]; decide) rfl nU (fun w47 hA48=>hK _ _ ?_))
  replace hA48:Hp w0 (X53::X52::X51::M::Y::[row b4 52 [.string (⟨#[]⟩),.string (⟨#[]⟩),.int .i64 0,.int .u8 0,.int .u8 0,.int .u8 0,.int .u8 0,.int .u8 0,.int .u8 0,.int .u8 0,.int .u8 0,.int .u8 0,.int .u8 0,.int .u8 0,.int .u8 0,.int .u8 0,.int .u8 0,.int .u8 0,.int .u8 0,.int .u8 0,.int .u8 0,.int .u8 0,.int .u8 0,.int .u8 0,.int .u8 0,.int .u8 0,.int .u8 0,.int .u8 0,.int .u8 0,.int .u8 0,.int .u8 0,.int .u8 0,.int .u8 0,.int .u8 0,.int .u8 0,.slice none 0 0,.slice none 0 0,.slice none 0 0,.slice none 0 0]]::[row b1 52 (c12.cells.set (35+3) (.slice AP3 ca.rea.length cP3))]::R) w47:=hA48
  obtain ⟨c13,hc13⟩:∃ q:CA,q=⟨c12.name,c12.typ,c12.cnt,c12.ch,c12.vals,c12.vA,c12.vC,c12.opn,c12.oA,c12.oC,c12.clo,c12.cA,c12.cC,ca.rea,AP3,cP3⟩:=⟨_,rfl⟩
  have h32_3:c13.ch.length=32:=by rw [hc13]; exact h32_2
  have hA49:Hp w0 (X53::X52::X51::M::Y::[row b4 52 [.string (⟨#[]⟩),.string (⟨#[]⟩),.int .i64 0,.int .u8 0,.int .u8 0,.int .u8 0,.int .u8 0,.int .u8 0,.int .u8 0,.int .u8 0,.int .u8 0,.int .u8 0,.int .u8 0,.int .u8 0,.int .u8 0,.int .u8 0,.int .u8 0,.int .u8 0,.int .u8 0,.int .u8 0,.int .u8 0,.int .u8 0,.int .u8 0,.int .u8 0,.int .u8 0,.int .u8 0,.int .u8 0,.int .u8 0,.int .u8 0,.int .u8 0,.int .u8 0,.int .u8 0,.int .u8 0,.int .u8 0,.int .u8 0,.slice none 0 0,.slice none 0 0,.slice none 0 0,.slice none 0 0]]::[row b1 52 c13.cells]::R) w47:=(by have h9:=hA48; rw [mM h32_2] at h9; rw [hc13]; exact h9)
  refine aK<|hK13 _ _ ?_
  refine wS hF fun K14 hK14=>vV O (cO (new:=c13.cells) rfl hA49.q O 6 O yS (by rw [dY h32_3]; exact Qw _) (by rw [List.drop_zero]; exact Qz (by rw [dY h32_3]; exact Qw _))) fun a hF=>?_
  refine ax O (fun K hK=>bu (new:=c13.cells) hF O O hA49 O O 5 O (by rw [dY h32_3]; rfl) I9 Gy (fun w50 hA51=>hK _ _ ?_))
  replace hA51:Hp w0 (X53::X52::X51::M::Y::[row b4 52 c13.cells]::[row b1 52 c13.cells]::R) w50:=hA51
  refine aK<|hK14 _ _ ?_
  apply wp_ret
  refine lm hF Tryz.results55 hA51.q O 5 O (by rw [dY h32_3]; exact yS) ?_
  have hA52:Hp w0 (Y::M::X51::X52::X53::R) w50:=hpS 7 [4,3,2,1,0] [5,6] hA51 rfl
  have hA53:Hp w0 ((Y++(M++(X51++(X52++X53))))::R) w50:=Hp.cast hA52 (by simp [List.append_assoc])
  refine ⟨c13,_,rfl,?_,?_,?_,?_,?_,hA53⟩
  ·rw [hc13,hc12,hc11,hc10]; exact ⟨rfl,rfl,rfl,rfl,hws,rfl,rfl,rfl⟩
  ·rw [hc13,hc12,hc11,hc10]
   exact ⟨h32,fun b hb=>(hwo b hb).mono1 (fun x hx=>by simp [hx]),hRv.monoF (by simp only [List.flatten_cons,List.flatten_nil,List.append_nil]; exact fun x hx=>by simp [hx]),by show ws.length≤_; omega,hRP1.monoF (by simp only [List.flatten_cons,List.flatten_nil,List.append_nil]; exact fun x hx=>by simp [hx]),hC.opl,hRP2.monoF (by simp only [List.flatten_cons,List.flatten_nil,List.append_nil]; exact fun x hx=>by simp [hx]),hC.cll,hRP3.monoF (by simp only [List.flatten_cons,List.flatten_nil,List.append_nil]; exact fun x hx=>by simp [hx]),hC.rel⟩
  ·rw [hc13,hc12,hc11,hc10]
  ·rw [hc13,hc12,hc11,hc10]
  ·rw [hc13,hc12,hc11,hc10]
end Go.Proofs.YtepbmdlgdaedpaaGreatDoor
