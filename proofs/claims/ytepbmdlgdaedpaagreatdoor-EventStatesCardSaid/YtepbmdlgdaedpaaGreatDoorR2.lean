/- The document's own: a value as bytes, and taken off the front of bytes. -/
import Derived.Test.YtepbmdlgdaedpaaGreatDoorR1
import Derived.Test.YtepbmdlgdaedpaaGreatDoorOctetS
import Derived.Test.YtepbmdlgdaedpaaGreatDoorRf
import Derived.Test.YtepbmdlgdaedpaaGreatDoorHc
import Derived.Test.YtepbmdlgdaedpaaGreatDoorEvT
/- The document's own: a value as bytes, and taken off the front of bytes. -/
namespace Go.Proofs.YtepbmdlgdaedpaaGreatDoor
open Go.RowKit Go.Dk
theorem FT:aP Tryz.prog 107:=⟨_,Tryz.func107,af,af⟩
theorem wW:aP Tryz.prog 109:=⟨_,Tryz.func109,af,af⟩
theorem O0 (n:Nat):be 1 n=[UInt8.ofNat n]:=by
 show [UInt8.ofNat (n/256 ^ 0)]=_
 rw [Nat.pow_zero,Nat.div_one]
theorem kb8 {k:Int} (h:0≤k∧k≤255):IntKind.u8.wrap k=((UInt8.ofNat k.toNat).toNat:Int):=by
 rw [IntKind.wrap_u8,UInt8.toNat_ofNat']
 omega
theorem nb8 {n:Int} (h:n=0∨n=1):IntKind.u8.wrap n=((if n=1 then 1 else 0:UInt8).toNat:Int):=by
 rcases h with h | h <;> subst h <;> rfl
theorem Gt {v:Val} (h:v.k=1∨v.k=4):v.bytes=be 1 v.k.toNat++be 8 (u64 v.n):=by unfold Val.bytes; rw [if_pos h]
theorem Pe {v:Val} (h:v.k=2):v.bytes=be 1 v.k.toNat++[if v.n=1 then 1 else 0]:=by unfold Val.bytes; rw [if_neg ag,if_pos h]
theorem O9 {v:Val} (h:v.k=3):v.bytes=be 1 v.k.toNat++nameB v.t:=by unfold Val.bytes nameB; rw [if_neg ag,if_neg ag,if_pos h]
theorem O8 {v:Val} (h:v.k=5):v.bytes=be 1 v.k.toNat++(be 2 v.s.length++dV v.s):=by unfold Val.bytes; rw [if_neg ag,if_neg ag,if_neg ag,if_pos h]
theorem Pg {v:Val} (h:¬ (v.k=1∨v.k=4)∧¬ v.k=2∧¬ v.k=3∧¬ v.k=5):v.bytes=be 1 v.k.toNat:=by unfold Val.bytes; rw [if_neg h.1,if_neg h.2.1,if_neg h.2.2.1,if_neg h.2.2.2,List.append_nil]
theorem Ej {ss:List (List UInt8)} (h:∀ m∈ss,m.length≤1024) (i:Nat):(dV (ss.take i)).length≤1026*i:=by
 induction i with
 | zero=>simp [dV]
 | succ i ih =>
  cases hq:ss[i]? with
  | none=>rw [List.take_add_one,hq]; simp only [Option.toList_none,List.append_nil]; omega
  | some q =>
   rw [mf hq,List.length_append,List.length_append,aW]
   have:=h q (List.mem_of_getElem? hq)
   omega
set_option maxRecDepth 100000 in
set_option maxHeartbeats 8000000 in
theorem G5 {w0:World} {R:List Seg} {G:List Seg} (va:VA) (w:World) (hV:va.Ok w0 G) (hG:G⊆R) (hA:Hp w0 R w):Calls Tryz.prog 49 #[.agg va.cells.toArray] w fun e w'=>∃ v Z,e= .returned (.tuple #[v,.int .i64 (va.v.right:Nat)])∧Buf 5 1 Z v va.v.put.length (dc va.v.put)∧Hp w0 (Z::R) w':=by
 have hn:=hV.n
 refine aQ Tryz.func49 O Tryz.ntmps49 ai (fun a hF=>?_)
 refine wp_seq_k fun K1 hK1=>wp_region_lit ?_
 refine ax O (fun K hK=>dL (cs:=[.int .i64 va.v.k,.int .i64 va.v.n,ak va.v.t,.slice va.sA va.v.s.length va.sC]) hF O ae rfl hA O (fun b1 w2 a hb1 hF hA3=>hK _ _ ?_))
 refine vR hF<|vX O<|vX O<|vE hK1<|wT fun K2 hK2=>vV O (cO (new:=[.int .i64 va.v.k,.int .i64 va.v.n,ak va.v.t,.slice va.sA va.v.s.length va.sC]) O hA3.q O 0 O Ku ai rfl) fun a hF=>?_
 refine ax O (fun K hK=>ay hF O ae FT rfl rfl ?_)
 with_reducible refine (G7 va _ hV (List.Subset.trans hG (bJ (dD))) hA3).mono ?_
 rintro e' w4 ⟨rfl,hA5⟩
 refine ⟨_,rfl,fun a hF=>hK _ _ ?_⟩
 replace hA5:Hp w0 ([row b1 25 [.int .i64 va.v.k,.int .i64 va.v.n,ak va.v.t,.slice va.sA va.v.s.length va.sC]]::R) w4:=hA5
 refine vR hF<|vX O<|vE hK2<|wQ fun K3 hK3=>wT fun K4 hK4=>vX O<|vV O (aJ O O O O O)<|vE hK4 fun a hF=>?_
 by_cases hr0:va.v.right=0
 ·refine au hF O (fK ag) ?_
  have hR:=Val.rt hr0
  have hk:0≤va.v.k∧va.v.k≤5:=by rcases hR.k with h | h | h | h | h | h <;> omega
  obtain ⟨b0,hb0⟩:∃ b0,b0=UInt8.ofNat va.v.k.toNat:=⟨_,rfl⟩
  have hbe:be 1 va.v.k.toNat=[b0]:=by rw [hb0]; exact O0 _
  apply wp_skip
  refine hK3 _ _ ?_
  refine wS hF fun K5 hK5=>vV O (yf 0 O QE O jU O)<|vV O (aX O hA5.q O 0 O O jV)<|vV O (bQ O QI QJ O (show IntKind.u8.wrap va.v.k=(b0.toNat:Int) by rw [hb0]; exact kb8 ag)) fun a hF=>?_
  refine ax O (fun K hK=>iG hF O ae rfl hA5 b0 rfl iE (fun b6 w7 a hb6 hF hA8=>hK _ _ ?_))
  replace hA8:Hp w0 ([row b6 5 (dc [b0])]::[row b1 25 [.int .i64 va.v.k,.int .i64 va.v.n,ak va.v.t,.slice va.sA va.v.s.length va.sC]]::R) w7:=hA8
  refine vR hF<|vX O<|vE hK5<|wQ fun K6 hK6=>wT fun K7 hK7=>vV O (yf 0 O QE O jU O)<|vV O (aX O hA8.q O 1 O O jV)<|vV O (aJ O O O O O)<|vX O fun a hF=>?_
  refine bF (l2:=?lA1) hF [(23,.bool ((aF .eql (va.v.k) (1)) || (aF .eql (va.v.k) (4)))),(0,.agg ([.int .i64 va.v.k,.int .i64 va.v.n,ak va.v.t,.slice va.sA va.v.s.length va.sC]).toArray),(1,.pointer (some ⟨b1,0,none⟩)),(2,.slice none 0 0),(3,.int .i64 0),(7,.agg ([.int .i64 va.v.k,.int .i64 va.v.n,ak va.v.t,.slice va.sA va.v.s.length va.sC]).toArray),(8,.int .i64 ((va.v.right:Nat):Int)),(4,.int .i64 ((va.v.right:Nat):Int)),(9,.int .i64 ((va.v.right:Nat):Int)),(10,.bool (aF .neq (((va.v.right:Nat):Int)) (0))),(12,.pointer (some ⟨b1,0,none⟩)),(13,.int .i64 va.v.k),(14,.int .u8 (b0.toNat:Int)),(15,.slice (some ⟨b6,0,none⟩) 1 1),(5,.slice (some ⟨b6,0,none⟩) 1 1)] (fun hJ1=>?elA1) (fun a hF=>?flA1)
  case elA1 =>
   rcases tf (aF .eql (va.v.k) (1)) with hg1 | hg1
   ·refine aI hF O O O O (aj hg1) ae _ (yf 0 O QE O jU O) (fun a hF=>?_)
    refine aI hF O O O O (aj hg1) ae _ (aX O hA8.q O 1 O O jV) (fun a hF=>?_)
    refine aI hF O O O O (aj hg1) ae _ (aJ O O O O O) (fun a hF=>?_)
    refine vR hF<|vV O (aV hg1 rfl rfl rfl) fun a hF=>?_
    exact hJ1 _ ((hF.keep [23,0,1,2,3,7,8,4,9,10,12,13,14,15,5] (F':=[(23,_),(0,_),(1,_),(2,_),(3,_),(7,_),(8,_),(4,_),(9,_),(10,_),(12,_),(13,_),(14,_),(15,_),(5,_)]) O).bool (by rw [hg1]; rfl))
   ·refine az hF O O O O O (aB hg1) ae (fun a hF=>?_)
    refine az hF O O O O O (aB hg1) ae (fun a hF=>?_)
    refine az hF O O O O O (aB hg1) ae (fun a hF=>?_)
    refine vR hF<|vV O (bg hg1 rfl rfl rfl) fun a hF=>?_
    exact hJ1 _ ((hF.keep [23,0,1,2,3,7,8,4,9,10,12,13,14,15,5] (F':=[(23,_),(0,_),(1,_),(2,_),(3,_),(7,_),(8,_),(4,_),(9,_),(10,_),(12,_),(13,_),(14,_),(15,_),(5,_)]) O).bool (by rw [hg1]; rfl))
  refine aK<|hK7 _ _ ?_
  have hB0:Buf 5 1 [row b6 5 (dc [b0])] (.slice (some ⟨b6,0,none⟩) 1 1) [b0].length (dc [b0]):=Buf.full rfl ae
  have hJ:∀ (a:Act) (x:World) (v5:Value) (X5:Seg),Buf 5 1 X5 v5 va.v.bytes.length (dc va.v.bytes)→Fr 71 [(5,v5)] a→Hp w0 (X5::R) x→K6 a x:=by
   clear hF
   intro a x v5 X5 hB5 hF hA
   refine hK6 _ _ ?_
   refine wS hF fun K8 hK8=>vX O<|vX O<|vX O<|vE hK8 fun a hF=>?_
   apply wp_ret
   refine gp hF Tryz.results49 O O ?_
   exact ⟨v5,X5,by rw [hr0]; rfl,by rw [show va.v.put=va.v.bytes from if_pos hr0]; exact hB5,hA⟩
  by_cases hk1:va.v.k=1
  ·refine aG hF O (by simp [aF,hk1]) ?_
   refine wp_region_lit ?_
   refine vR hF<|vX O<|vV O (yf 1 O QE O jC O)<|vV O (aX O hA8.q O 1 O O nJ) fun a hF=>?_
   refine ax O (fun K hK=>ay hF O ae FQ rfl rfl ?_)
   with_reducible refine (jm va.v.n 8 8 _ O ae hA8).mono ?_
   rintro e' w9 ⟨vN1,ZN1,rfl,hN1,hA10⟩
   refine ⟨_,rfl,fun a hF=>hK _ _ ?_⟩
   replace hA10:Hp w0 (ZN1::[row b6 5 (dc [b0])]::[row b1 25 [.int .i64 va.v.k,.int .i64 va.v.n,ak va.v.t,.slice va.sA va.v.s.length va.sC]]::R) w9:=hA10
   obtain ⟨_,AN1,cN1,rfl,hcN1,hRN1⟩:=hN1.rd (w0:=w0) (R:=[ZN1]) (Qx ..)
   refine ax O (fun K hK=>bM hF O ae rfl hA10 1 O hB0 Qv cZ rfl rfl (Rc.src hRN1 (Hq.sub hA10.q (List.cons_subset.2 ⟨((Qx ..)),List.nil_subset _⟩)) Qv) (by rw [aW,show [b0].length=1 from rfl]; decide) ae (fun v1 X1 w11 a hB1 hF hA12=>hK _ _ ?_))
   replace hA12:Hp w0 (ZN1::X1::[row b1 25 [.int .i64 va.v.k,.int .i64 va.v.n,ak va.v.t,.slice va.sA va.v.s.length va.sC]]::R) w11:=hA12
   replace hB1:Buf 5 1 X1 v1 ([b0]++be 8 (u64 va.v.n)).length (dc ([b0]++be 8 (u64 va.v.n))):=by rw [List.length_append,bK]; exact hB1
   refine vR hF<|vX O fun a hF=>?_
   refine aK ?_
   have hA13:Hp w0 (X1::R) w11:=hpS 3 [1] [0,2] hA12 rfl
   exact hJ _ _ v1 _ (by rw [Gt (.inl hk1),hbe]; exact hB1) (hF.keep [5] rfl) hA13
  ·by_cases hk4:va.v.k=4
   ·refine aG hF O (by simp [aF,hk4]) ?_
    refine wp_region_lit ?_
    refine vR hF<|vX O<|vV O (yf 1 O QE O jC O)<|vV O (aX O hA8.q O 1 O O nJ) fun a hF=>?_
    refine ax O (fun K hK=>ay hF O ae FQ rfl rfl ?_)
    with_reducible refine (jm va.v.n 8 8 _ O ae hA8).mono ?_
    rintro e' w14 ⟨vN1,ZN1,rfl,hN1,hA15⟩
    refine ⟨_,rfl,fun a hF=>hK _ _ ?_⟩
    replace hA15:Hp w0 (ZN1::[row b6 5 (dc [b0])]::[row b1 25 [.int .i64 va.v.k,.int .i64 va.v.n,ak va.v.t,.slice va.sA va.v.s.length va.sC]]::R) w14:=hA15
    obtain ⟨_,AN1,cN1,rfl,hcN1,hRN1⟩:=hN1.rd (w0:=w0) (R:=[ZN1]) (Qx ..)
    refine ax O (fun K hK=>bM hF O ae rfl hA15 1 O hB0 Qv cZ rfl rfl (Rc.src hRN1 (Hq.sub hA15.q (List.cons_subset.2 ⟨((Qx ..)),List.nil_subset _⟩)) Qv) (by rw [aW,show [b0].length=1 from rfl]; decide) ae (fun v1 X1 w16 a hB1 hF hA17=>hK _ _ ?_))
    replace hA17:Hp w0 (ZN1::X1::[row b1 25 [.int .i64 va.v.k,.int .i64 va.v.n,ak va.v.t,.slice va.sA va.v.s.length va.sC]]::R) w16:=hA17
    replace hB1:Buf 5 1 X1 v1 ([b0]++be 8 (u64 va.v.n)).length (dc ([b0]++be 8 (u64 va.v.n))):=by rw [List.length_append,bK]; exact hB1
    refine vR hF<|vX O fun a hF=>?_
    refine aK ?_
    have hA18:Hp w0 (X1::R) w16:=hpS 3 [1] [0,2] hA17 rfl
    exact hJ _ _ v1 _ (by rw [Gt (.inr hk4),hbe]; exact hB1) (hF.keep [5] rfl) hA18
   ·refine au hF O (by simp [aF,hk1,hk4]) ?_
    refine wS hF fun K9 hK9=>vV O (yf 0 O QE O jU O)<|vV O (aX O hA8.q O 1 O O jV)<|vV O (aJ O O O O O)<|vE hK9 fun a hF=>?_
    by_cases hk2:va.v.k=2
    ·refine aG hF O (by simp [aF,hk2]) ?_
     obtain ⟨c0,hc0⟩:∃ c0:UInt8,c0=if va.v.n=1 then 1 else 0:=⟨_,rfl⟩
     refine wp_region_lit ?_
     refine vR hF<|vX O<|vV O (yf 1 O QE O jC O)<|vV O (aX O hA8.q O 1 O O nJ)<|vV O (bQ O QD QJ O (show IntKind.u8.wrap va.v.n=(c0.toNat:Int) by rw [hc0]; exact nb8 (by rcases hR.k with h | h | h | h | h | h <;> omega))) fun a hF=>?_
     refine ax O (fun K hK=>iG hF O ae rfl hA8 c0 rfl iE (fun b19 w20 a hb19 hF hA21=>hK _ _ ?_))
     replace hA21:Hp w0 ([row b19 5 (dc [c0])]::[row b6 5 (dc [b0])]::[row b1 25 [.int .i64 va.v.k,.int .i64 va.v.n,ak va.v.t,.slice va.sA va.v.s.length va.sC]]::R) w20:=hA21
     refine ax O (fun K hK=>bM hF O ae rfl hA21 1 O hB0 Qv cZ rfl rfl (Rc.src (l:=[c0]) (Rc.ofRow (R:=[row b19 5 (dc [c0])]::[row b6 5 (dc [b0])]::[row b1 25 [.int .i64 va.v.k,.int .i64 va.v.n,ak va.v.t,.slice va.sA va.v.s.length va.sC]]::R) (i:=0) (off:=0) rfl rfl) hA21.q Qv) (by rw [show [b0].length=1 from rfl,show [c0].length=1 from rfl]; decide) ae (fun v1 X1 w22 a hB1 hF hA23=>hK _ _ ?_))
     replace hA23:Hp w0 ([row b19 5 (dc [c0])]::X1::[row b1 25 [.int .i64 va.v.k,.int .i64 va.v.n,ak va.v.t,.slice va.sA va.v.s.length va.sC]]::R) w22:=hA23
     replace hB1:Buf 5 1 X1 v1 ([b0]++[c0]).length (dc ([b0]++[c0])):=by rw [List.length_append,bK]; exact hB1
     refine vR hF<|vX O fun a hF=>?_
     refine aK ?_
     have hA24:Hp w0 (X1::R) w22:=hpS 3 [1] [0,2] hA23 rfl
     exact hJ _ _ v1 _ (by rw [Pe hk2,hbe,← hc0]; exact hB1) (hF.keep [5] rfl) hA24
    ·refine au hF O (by simp [aF,hk2]) ?_
     refine wS hF fun K10 hK10=>vV O (yf 0 O QE O jU O)<|vV O (aX O hA8.q O 1 O O jV)<|vV O (aJ O O O O O)<|vE hK10 fun a hF=>?_
     by_cases hk3:va.v.k=3
     ·refine aG hF O (by simp [aF,hk3]) ?_
      refine wp_region_lit ?_
      refine vR hF<|vX O<|vV O (yf 2 O QE O xq O)<|vV O (aX O hA8.q O 1 O O xM) fun a hF=>?_
      refine ax O (fun K hK=>ay hF O ae wW rfl rfl ?_)
      with_reducible refine (xy va.v.t _ (by have:=hR.tl; omega) hA8).mono ?_
      rintro e' w25 ⟨vN1,ZN1,rfl,hN1,hA26⟩
      refine ⟨_,rfl,fun a hF=>hK _ _ ?_⟩
      replace hA26:Hp w0 (ZN1::[row b6 5 (dc [b0])]::[row b1 25 [.int .i64 va.v.k,.int .i64 va.v.n,ak va.v.t,.slice va.sA va.v.s.length va.sC]]::R) w25:=hA26
      obtain ⟨_,AN1,cN1,rfl,hcN1,hRN1⟩:=hN1.rd (w0:=w0) (R:=[ZN1]) (Qx ..)
      refine ax O (fun K hK=>bM hF O ae rfl hA26 1 O hB0 Qv cZ rfl rfl (Rc.src hRN1 (Hq.sub hA26.q (List.cons_subset.2 ⟨((Qx ..)),List.nil_subset _⟩)) Qv) (by have:=hR.tl; rw [eU,show [b0].length=1 from rfl]; omega) ae (fun v1 X1 w27 a hB1 hF hA28=>hK _ _ ?_))
      replace hA28:Hp w0 (ZN1::X1::[row b1 25 [.int .i64 va.v.k,.int .i64 va.v.n,ak va.v.t,.slice va.sA va.v.s.length va.sC]]::R) w27:=hA28
      replace hB1:Buf 5 1 X1 v1 ([b0]++nameB va.v.t).length (dc ([b0]++nameB va.v.t)):=by rw [List.length_append,bK]; exact hB1
      refine vR hF<|vX O fun a hF=>?_
      refine aK ?_
      have hA29:Hp w0 (X1::R) w27:=hpS 3 [1] [0,2] hA28 rfl
      exact hJ _ _ v1 _ (by rw [O9 hk3,hbe]; exact hB1) (hF.keep [5] rfl) hA29
     ·refine au hF O (by simp [aF,hk3]) ?_
      refine wS hF fun K11 hK11=>vV O (yf 0 O QE O jU O)<|vV O (aX O hA8.q O 1 O O jV)<|vV O (aJ O O O O O)<|vE hK11 fun a hF=>?_
      by_cases hk5:va.v.k=5
      ·refine aG hF O (by simp [aF,hk5]) ?_
       have hsl:=hR.sl
       have hml:=hR.ml
       refine wS hF fun K12 hK12=>vX O<|vV O (yf 3 O QE O nU O)<|vV O (aX O hA8.q O 1 O O nZ)<|vV O (aT O Qr O O) fun a hF=>?_
       refine ax O (fun K hK=>ay hF O ae FQ rfl rfl ?_)
       with_reducible refine (jm (va.v.s.length:Int) 2 2 _ O ae hA8).mono ?_
       rintro e' w30 ⟨vN1,ZN1,rfl,hN1,hA31⟩
       refine ⟨_,rfl,fun a hF=>hK _ _ ?_⟩
       replace hA31:Hp w0 (ZN1::[row b6 5 (dc [b0])]::[row b1 25 [.int .i64 va.v.k,.int .i64 va.v.n,ak va.v.t,.slice va.sA va.v.s.length va.sC]]::R) w30:=hA31
       obtain ⟨_,AN1,cN1,rfl,hcN1,hRN1⟩:=hN1.rd (w0:=w0) (R:=[ZN1]) (Qx ..)
       refine ax O (fun K hK=>bM hF O ae rfl hA31 1 O hB0 Qv cZ rfl rfl (Rc.src hRN1 (Hq.sub hA31.q (List.cons_subset.2 ⟨((Qx ..)),List.nil_subset _⟩)) Qv) (by rw [aW,show [b0].length=1 from rfl]; decide) ae (fun v1 X1 w32 a hB1 hF hA33=>hK _ _ ?_))
       replace hA33:Hp w0 (ZN1::X1::[row b1 25 [.int .i64 va.v.k,.int .i64 va.v.n,ak va.v.t,.slice va.sA va.v.s.length va.sC]]::R) w32:=hA33
       replace hB1:Buf 5 1 X1 v1 ([b0]++be 2 (u64 (va.v.s.length:Int))).length (dc ([b0]++be 2 (u64 (va.v.s.length:Int)))):=by rw [List.length_append,bK]; exact hB1
       refine vR hF<|vX O<|vE hK12<|wT fun K13 hK13=>vX O<|vE hK13<|wBk fun a hF=>?_
       rw [o9 (show va.v.s.length<140737488353900 by omega)] at hB1
       have hA34:Hp w0 (X1::[row b1 25 [.int .i64 va.v.k,.int .i64 va.v.n,ak va.v.t,.slice va.sA va.v.s.length va.sC]]::R) w32:=hpS 3 [1,2] [0] hA33 rfl
       refine bG (G:=Nat) (fun i a x=>∃ (vL:Value) (XL:Seg),i≤va.v.s.length∧Buf 5 1 XL vL ([b0]++be 2 va.v.s.length++dV (va.v.s.take i)).length (dc ([b0]++be 2 va.v.s.length++dV (va.v.s.take i)))∧Fr 71 [(6,.int .i64 (i:Int)),(5,vL),(1,.pointer (some ⟨b1,0,none⟩))] a∧Hp w0 (XL::[row b1 25 [.int .i64 va.v.k,.int .i64 va.v.n,ak va.v.t,.slice va.sA va.v.s.length va.sC]]::R) x) (fun i=>va.v.s.length-i) 0 (⟨_,_,Qs _,(by rw [List.take_zero,vT,List.append_nil]; exact hB1),hF.keep [6,5,1] rfl,hA34⟩) ?_
       clear hF
       rintro i a w36 ⟨vL,XL,hi,hB2,hF,hA35⟩
       apply wp_seq_k; intro K14 hK14
       refine wS hF fun K15 hK15=>vX O<|vV O (yf 3 O QE O nU O)<|vV O (aX O hA35.q O 1 O O nZ)<|vV O (aT O Qr O O)<|vV O (aJ O O O O O)<|vE hK15 fun a hF=>?_
       by_cases hlt:i<va.v.s.length
       ·refine aG hF O (dA ag) ?_
        obtain ⟨q,hp⟩:∃ q,va.v.s[i]? = some q:=⟨_,List.getElem?_eq_getElem hlt⟩
        obtain ⟨b,o,hsA,hc⟩:=hV.rc.ne (i:=i) (by rw [List.length_map]; exact hlt)
        have hq:=hml q (List.mem_of_getElem? hp)
        have hfl:=Ej hml i
        rw [hsA] at hA35
        apply wp_skip
        refine hK14 _ _ ?_
        apply wp_seq_k; intro K16 hK16
        apply wp_block
        refine wp_region_lit ?_
        refine vR hF<|vX O<|vV O (yf 3 O QE O nU O)<|vV O (aX O hA35.q O 1 O O nZ)<|vX O<|vV O (bV O Qr xq O O i rfl hlt (ad2 _ _ _))<|vV O (dN (u:=ak q) rfl (Hq.sub hA35.q (List.Subset.trans hG ((bJ (bJ (dD)))))) O hc i (by rw [List.length_map]; exact hlt) rfl (by rw [List.getElem?_map,hp]; rfl) xM) fun a hF=>?_
        refine ax O (fun K hK=>ay hF O ae wW rfl rfl ?_)
        with_reducible refine (xy q _ ag hA35).mono ?_
        rintro e' w37 ⟨vN2,ZN2,rfl,hN2,hA38⟩
        refine ⟨_,rfl,fun a hF=>hK _ _ ?_⟩
        replace hA38:Hp w0 (ZN2::XL::[row b1 25 [.int .i64 va.v.k,.int .i64 va.v.n,ak va.v.t,.slice (some ⟨b,o,none⟩) va.v.s.length va.sC]]::R) w37:=hA38
        obtain ⟨_,AN2,cN2,rfl,hcN2,hRN2⟩:=hN2.rd (w0:=w0) (R:=[ZN2]) (Qx ..)
        refine ax O (fun K hK=>bM hF O ae rfl hA38 1 O hB2 Qv cZ rfl rfl (Rc.src hRN2 (Hq.sub hA38.q (List.cons_subset.2 ⟨((Qx ..)),List.nil_subset _⟩)) Qv) (by rw [List.length_append,List.length_append,aW,eU,show [b0].length=1 from rfl]; omega) ae (fun v3 X3 w39 a hB3 hF hA40=>hK _ _ ?_))
        replace hA40:Hp w0 (ZN2::X3::[row b1 25 [.int .i64 va.v.k,.int .i64 va.v.n,ak va.v.t,.slice (some ⟨b,o,none⟩) va.v.s.length va.sC]]::R) w39:=hA40
        replace hB3:Buf 5 1 X3 v3 (([b0]++be 2 va.v.s.length++dV (va.v.s.take i))++nameB q).length (dc (([b0]++be 2 va.v.s.length++dV (va.v.s.take i))++nameB q)):=by rw [List.length_append,bK]; exact hB3
        refine vR hF<|vX O fun a hF=>aK<|hK16 _ _ ?_
        refine wp_region_lit ?_
        refine vR hF<|vX O<|vV O (bH O O O (Qu _ ag))<|vX O fun a hF=>?_
        refine aK ?_
        rw [← hsA] at hA40
        have hA41:Hp w0 (X3::[row b1 25 [.int .i64 va.v.k,.int .i64 va.v.n,ak va.v.t,.slice va.sA va.v.s.length va.sC]]::R) w39:=hpS 3 [1,2] [0] hA40 rfl
        exact ⟨i+1,ag,_,_,ag,by rw [mf hp,← List.append_assoc]; exact hB3,hF.keep [6,5,1] rfl,hA41⟩
       ·refine au hF O (dm ag) ?_
        obtain rfl:i=va.v.s.length:=by omega
        rw [List.take_length,List.append_assoc] at hB2
        apply wp_exit
        have hA42:Hp w0 (XL::R) w36:=hpS 2 [0] [1] hA35 rfl
        exact hJ _ _ vL _ (by rw [O8 hk5,hbe]; exact hB2) (hF.keep [5] rfl) hA42
      ·refine au hF O (by simp [aF,hk5]) ?_
       apply wp_skip
       have hA43:Hp w0 ([row b6 5 (dc [b0])]::R) w7:=hpS 2 [0] [1] hA8 rfl
       exact hJ _ _ _ _ (by rw [Pg ag,hbe]; exact hB0) (hF.keep [5] rfl) hA43
 ·refine aG hF O (iW ag) ?_
  refine wS hF fun K17 hK17=>vX O<|vX O<|vX O<|vE hK17 fun a hF=>?_
  apply wp_ret
  simp only [Exit.then]
  refine gp hF Tryz.results49 O O ?_
  have hA44:Hp w0 (R) w4:=hpS 1 [] [0] hA5 rfl
  exact ⟨_,[],rfl,by rw [show va.v.put=[] from if_neg hr0]; exact Buf.nil _ _,Hp.nil hA44⟩
section
variable {P:Program} {w w0:World} {n:Nat} {F:List (Nat × Value)} {a:Act} {L:List Row} {R:List Seg}
end
end Go.Proofs.YtepbmdlgdaedpaaGreatDoor
