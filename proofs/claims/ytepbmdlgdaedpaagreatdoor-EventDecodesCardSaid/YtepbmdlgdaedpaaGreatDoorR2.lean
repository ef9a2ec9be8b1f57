/- The document's own: a value as bytes, and taken off the front of bytes. -/
import Derived.Test.YtepbmdlgdaedpaaGreatDoorR1
import Derived.Test.YtepbmdlgdaedpaaGreatDoorRt
import Derived.Test.YtepbmdlgdaedpaaGreatDoorEvI
/- The document's own: a value as bytes, and taken off the front of bytes. -/
namespace Go.Proofs.YtepbmdlgdaedpaaGreatDoor
open Go.RowKit Go.Dk
theorem sG:aQ Tryz.prog 107:=⟨_,Tryz.func107,af,af⟩
theorem sF:aQ Tryz.prog 109:=⟨_,Tryz.func109,af,af⟩
theorem Bv:aQ Tryz.prog 111:=⟨_,Tryz.func111,af,af⟩
theorem Bq:aQ Tryz.prog 113:=⟨_,Tryz.func113,af,af⟩
theorem qG (n:Nat):be 1 n=[UInt8.ofNat n]:=by
 show [UInt8.ofNat (n/256 ^ 0)]=_
 rw [Nat.pow_zero,Nat.div_one]
theorem kb8 {k:Int} (h:0≤k∧k≤255):IntKind.u8.wrap k=((UInt8.ofNat k.toNat).toNat:Int):=by
 rw [IntKind.wrap_u8,UInt8.toNat_ofNat']
 omega
theorem nb8 {n:Int} (h:n=0∨n=1):IntKind.u8.wrap n=((if n=1 then 1 else 0:UInt8).toNat:Int):=by
 rcases h with h | h <;> subst h <;> rfl
theorem BP {v:Val} (h:v.k=1∨v.k=4):v.bytes=be 1 v.k.toNat++be 8 (u64 v.n):=by unfold Val.bytes; rw [if_pos h]
theorem JE {v:Val} (h:v.k=2):v.bytes=be 1 v.k.toNat++[if v.n=1 then 1 else 0]:=by unfold Val.bytes; rw [if_neg ag,if_pos h]
theorem JD {v:Val} (h:v.k=3):v.bytes=be 1 v.k.toNat++nameB v.t:=by unfold Val.bytes nameB; rw [if_neg ag,if_neg ag,if_pos h]
theorem JC {v:Val} (h:v.k=5):v.bytes=be 1 v.k.toNat++(be 2 v.s.length++dY v.s):=by unfold Val.bytes; rw [if_neg ag,if_neg ag,if_neg ag,if_pos h]
theorem JF {v:Val} (h:¬ (v.k=1∨v.k=4)∧¬ v.k=2∧¬ v.k=3∧¬ v.k=5):v.bytes=be 1 v.k.toNat:=by unfold Val.bytes; rw [if_neg h.1,if_neg h.2.1,if_neg h.2.2.1,if_neg h.2.2.2,List.append_nil]
theorem Ac {ss:List (List UInt8)} (h:∀ m∈ss,m.length≤1024) (i:Nat):(dY (ss.take i)).length≤1026*i:=by
 induction i with
 | zero=>simp [dY]
 | succ i ih =>
  cases hq:ss[i]? with
  | none=>rw [List.take_add_one,hq]; simp only [Option.toList_none,List.append_nil]; omega
  | some q =>
   rw [jI hq,List.length_append,List.length_append,bi]
   have:=h q (List.mem_of_getElem? hq)
   omega
set_option maxRecDepth 100000 in
set_option maxHeartbeats 8000000 in
theorem uV {w0:World} {R:List Seg} {G:List Seg} (va:VA) (w:World) (hV:va.Ok w0 G) (hG:G⊆R) (hA:Hp w0 R w):Calls Tryz.prog 49 #[.agg va.cells.toArray] w fun e w'=>∃ v Z,e= .returned (.tuple #[v,.int .i64 (va.v.right:Nat)])∧Buf 5 1 Z v va.v.put.length (dc va.v.put)∧Hp w0 (Z::R) w':=by
 have hn:=hV.n
 refine aO Tryz.func49 O Tryz.ntmps49 ai (fun a hF=>?_)
 refine wp_seq_k fun K1 hK1=>wp_region_lit ?_
 refine aH O (fun K hK=>eY (cs:=[.int .i64 va.v.k,.int .i64 va.v.n,ak va.v.t,.slice va.sA va.v.s.length va.sC]) hF O ae rfl hA O (fun b1 w2 a hb1 hF hA3=>hK _ _ ?_))
 refine vR hF<|vX O<|vX O<|vE hK1<|wT fun K2 hK2=>vV O (dm (new:=[.int .i64 va.v.k,.int .i64 va.v.n,ak va.v.t,.slice va.sA va.v.s.length va.sC]) O hA3.q O 0 O FD ai rfl) fun a hF=>?_
 refine aH O (fun K hK=>aI hF O ae sG rfl rfl ?_)
 with_reducible refine (uX va _ hV (List.Subset.trans hG (bF (dH))) hA3).mono ?_
 rintro e' w4 ⟨rfl,hA5⟩
 refine ⟨_,rfl,fun a hF=>hK _ _ ?_⟩
 replace hA5:Hp w0 ([row b1 25 [.int .i64 va.v.k,.int .i64 va.v.n,ak va.v.t,.slice va.sA va.v.s.length va.sC]]::R) w4:=hA5
 refine vR hF<|vX O<|vE hK2<|wQ fun K3 hK3=>wT fun K4 hK4=>vX O<|vV O (aG O O O O O)<|vE hK4 fun a hF=>?_
 by_cases hr0:va.v.right=0
 ·refine ay hF O (eP ag) ?_
  have hR:=Val.rt hr0
  have hk:0≤va.v.k∧va.v.k≤5:=by rcases hR.k with h | h | h | h | h | h <;> omega
  obtain ⟨b0,hb0⟩:∃ b0,b0=UInt8.ofNat va.v.k.toNat:=⟨_,rfl⟩
  have hbe:be 1 va.v.k.toNat=[b0]:=by rw [hb0]; exact qG _
  apply wp_skip
  refine hK3 _ _ ?_
  refine wS hF fun K5 hK5=>vV O (yf 0 O Ll O iD O)<|vV O (aW O hA5.q O 0 O O iE)<|vV O (bI O Ls Lt O (show IntKind.u8.wrap va.v.k=(b0.toNat:Int) by rw [hb0]; exact kb8 ag)) fun a hF=>?_
  refine aH O (fun K hK=>gX hF O ae rfl hA5 b0 rfl gV (fun b6 w7 a hb6 hF hA8=>hK _ _ ?_))
  replace hA8:Hp w0 ([row b6 5 (dc [b0])]::[row b1 25 [.int .i64 va.v.k,.int .i64 va.v.n,ak va.v.t,.slice va.sA va.v.s.length va.sC]]::R) w7:=hA8
  refine vR hF<|vX O<|vE hK5<|wQ fun K6 hK6=>wT fun K7 hK7=>vV O (yf 0 O Ll O iD O)<|vV O (aW O hA8.q O 1 O O iE)<|vV O (aG O O O O O)<|vX O fun a hF=>?_
  refine aY (l2:=?lA1) hF [(23,.bool ((az .eql (va.v.k) (1)) || (az .eql (va.v.k) (4)))),(0,.agg ([.int .i64 va.v.k,.int .i64 va.v.n,ak va.v.t,.slice va.sA va.v.s.length va.sC]).toArray),(1,.pointer (some ⟨b1,0,none⟩)),(2,.slice none 0 0),(3,.int .i64 0),(7,.agg ([.int .i64 va.v.k,.int .i64 va.v.n,ak va.v.t,.slice va.sA va.v.s.length va.sC]).toArray),(8,.int .i64 ((va.v.right:Nat):Int)),(4,.int .i64 ((va.v.right:Nat):Int)),(9,.int .i64 ((va.v.right:Nat):Int)),(10,.bool (az .neq (((va.v.right:Nat):Int)) (0))),(12,.pointer (some ⟨b1,0,none⟩)),(13,.int .i64 va.v.k),(14,.int .u8 (b0.toNat:Int)),(15,.slice (some ⟨b6,0,none⟩) 1 1),(5,.slice (some ⟨b6,0,none⟩) 1 1)] (fun hJ1=>?elA1) (fun a hF=>?flA1)
  case elA1 =>
   rcases tf (az .eql (va.v.k) (1)) with hg1 | hg1
   ·refine aB hF O O O O (aj hg1) ae _ (yf 0 O Ll O iD O) (fun a hF=>?_)
    refine aB hF O O O O (aj hg1) ae _ (aW O hA8.q O 1 O O iE) (fun a hF=>?_)
    refine aB hF O O O O (aj hg1) ae _ (aG O O O O O) (fun a hF=>?_)
    refine vR hF<|vV O (aS hg1 rfl rfl rfl) fun a hF=>?_
    exact hJ1 _ ((hF.keep [23,0,1,2,3,7,8,4,9,10,12,13,14,15,5] (F':=[(23,_),(0,_),(1,_),(2,_),(3,_),(7,_),(8,_),(4,_),(9,_),(10,_),(12,_),(13,_),(14,_),(15,_),(5,_)]) O).bool (by rw [hg1]; rfl))
   ·refine au hF O O O O O (ax hg1) ae (fun a hF=>?_)
    refine au hF O O O O O (ax hg1) ae (fun a hF=>?_)
    refine au hF O O O O O (ax hg1) ae (fun a hF=>?_)
    refine vR hF<|vV O (aT hg1 rfl rfl rfl) fun a hF=>?_
    exact hJ1 _ ((hF.keep [23,0,1,2,3,7,8,4,9,10,12,13,14,15,5] (F':=[(23,_),(0,_),(1,_),(2,_),(3,_),(7,_),(8,_),(4,_),(9,_),(10,_),(12,_),(13,_),(14,_),(15,_),(5,_)]) O).bool (by rw [hg1]; rfl))
  refine aK<|hK7 _ _ ?_
  have hB0:Buf 5 1 [row b6 5 (dc [b0])] (.slice (some ⟨b6,0,none⟩) 1 1) [b0].length (dc [b0]):=Buf.full rfl ae
  have hJ:∀ (a:Act) (x:World) (v5:Value) (X5:Seg),Buf 5 1 X5 v5 va.v.bytes.length (dc va.v.bytes)→Fr 71 [(5,v5)] a→Hp w0 (X5::R) x→K6 a x:=by
   clear hF
   intro a x v5 X5 hB5 hF hA
   refine hK6 _ _ ?_
   refine wS hF fun K8 hK8=>vX O<|vX O<|vX O<|vE hK8 fun a hF=>?_
   apply wp_ret
   refine eu hF Tryz.results49 O O ?_
   exact ⟨v5,X5,by rw [hr0]; rfl,by rw [show va.v.put=va.v.bytes from if_pos hr0]; exact hB5,hA⟩
  by_cases hk1:va.v.k=1
  ·refine aF hF O (by simp [az,hk1]) ?_
   refine wp_region_lit ?_
   refine vR hF<|vX O<|vV O (yf 1 O Ll O gU O)<|vV O (aW O hA8.q O 1 O O kF) fun a hF=>?_
   refine aH O (fun K hK=>aI hF O ae Bz rfl rfl ?_)
   with_reducible refine (gK va.v.n 8 8 _ O ae hA8).mono ?_
   rintro e' w9 ⟨vN1,ZN1,rfl,hN1,hA10⟩
   refine ⟨_,rfl,fun a hF=>hK _ _ ?_⟩
   replace hA10:Hp w0 (ZN1::[row b6 5 (dc [b0])]::[row b1 25 [.int .i64 va.v.k,.int .i64 va.v.n,ak va.v.t,.slice va.sA va.v.s.length va.sC]]::R) w9:=hA10
   obtain ⟨_,AN1,cN1,rfl,hcN1,hRN1⟩:=hN1.rd (w0:=w0) (R:=[ZN1]) (La ..)
   refine aH O (fun K hK=>bG hF O ae rfl hA10 1 O hB0 KY bZ rfl rfl (Rc.src hRN1 (Hq.sub hA10.q (List.cons_subset.2 ⟨((La ..)),List.nil_subset _⟩)) KY) (by rw [bi,show [b0].length=1 from rfl]; decide) ae (fun v1 X1 w11 a hB1 hF hA12=>hK _ _ ?_))
   replace hA12:Hp w0 (ZN1::X1::[row b1 25 [.int .i64 va.v.k,.int .i64 va.v.n,ak va.v.t,.slice va.sA va.v.s.length va.sC]]::R) w11:=hA12
   replace hB1:Buf 5 1 X1 v1 ([b0]++be 8 (u64 va.v.n)).length (dc ([b0]++be 8 (u64 va.v.n))):=by rw [List.length_append,bP]; exact hB1
   refine vR hF<|vX O fun a hF=>?_
   refine aK ?_
   have hA13:Hp w0 (X1::R) w11:=hpS 3 [1] [0,2] hA12 rfl
   exact hJ _ _ v1 _ (by rw [BP (.inl hk1),hbe]; exact hB1) (hF.keep [5] rfl) hA13
  ·by_cases hk4:va.v.k=4
   ·refine aF hF O (by simp [az,hk4]) ?_
    refine wp_region_lit ?_
    refine vR hF<|vX O<|vV O (yf 1 O Ll O gU O)<|vV O (aW O hA8.q O 1 O O kF) fun a hF=>?_
    refine aH O (fun K hK=>aI hF O ae Bz rfl rfl ?_)
    with_reducible refine (gK va.v.n 8 8 _ O ae hA8).mono ?_
    rintro e' w14 ⟨vN1,ZN1,rfl,hN1,hA15⟩
    refine ⟨_,rfl,fun a hF=>hK _ _ ?_⟩
    replace hA15:Hp w0 (ZN1::[row b6 5 (dc [b0])]::[row b1 25 [.int .i64 va.v.k,.int .i64 va.v.n,ak va.v.t,.slice va.sA va.v.s.length va.sC]]::R) w14:=hA15
    obtain ⟨_,AN1,cN1,rfl,hcN1,hRN1⟩:=hN1.rd (w0:=w0) (R:=[ZN1]) (La ..)
    refine aH O (fun K hK=>bG hF O ae rfl hA15 1 O hB0 KY bZ rfl rfl (Rc.src hRN1 (Hq.sub hA15.q (List.cons_subset.2 ⟨((La ..)),List.nil_subset _⟩)) KY) (by rw [bi,show [b0].length=1 from rfl]; decide) ae (fun v1 X1 w16 a hB1 hF hA17=>hK _ _ ?_))
    replace hA17:Hp w0 (ZN1::X1::[row b1 25 [.int .i64 va.v.k,.int .i64 va.v.n,ak va.v.t,.slice va.sA va.v.s.length va.sC]]::R) w16:=hA17
    replace hB1:Buf 5 1 X1 v1 ([b0]++be 8 (u64 va.v.n)).length (dc ([b0]++be 8 (u64 va.v.n))):=by rw [List.length_append,bP]; exact hB1
    refine vR hF<|vX O fun a hF=>?_
    refine aK ?_
    have hA18:Hp w0 (X1::R) w16:=hpS 3 [1] [0,2] hA17 rfl
    exact hJ _ _ v1 _ (by rw [BP (.inr hk4),hbe]; exact hB1) (hF.keep [5] rfl) hA18
   ·refine ay hF O (by simp [az,hk1,hk4]) ?_
    refine wS hF fun K9 hK9=>vV O (yf 0 O Ll O iD O)<|vV O (aW O hA8.q O 1 O O iE)<|vV O (aG O O O O O)<|vE hK9 fun a hF=>?_
    by_cases hk2:va.v.k=2
    ·refine aF hF O (by simp [az,hk2]) ?_
     obtain ⟨c0,hc0⟩:∃ c0:UInt8,c0=if va.v.n=1 then 1 else 0:=⟨_,rfl⟩
     refine wp_region_lit ?_
     refine vR hF<|vX O<|vV O (yf 1 O Ll O gU O)<|vV O (aW O hA8.q O 1 O O kF)<|vV O (bI O Lh Lt O (show IntKind.u8.wrap va.v.n=(c0.toNat:Int) by rw [hc0]; exact nb8 (by rcases hR.k with h | h | h | h | h | h <;> omega))) fun a hF=>?_
     refine aH O (fun K hK=>gX hF O ae rfl hA8 c0 rfl gV (fun b19 w20 a hb19 hF hA21=>hK _ _ ?_))
     replace hA21:Hp w0 ([row b19 5 (dc [c0])]::[row b6 5 (dc [b0])]::[row b1 25 [.int .i64 va.v.k,.int .i64 va.v.n,ak va.v.t,.slice va.sA va.v.s.length va.sC]]::R) w20:=hA21
     refine aH O (fun K hK=>bG hF O ae rfl hA21 1 O hB0 KY bZ rfl rfl (Rc.src (l:=[c0]) (Rc.ofRow (R:=[row b19 5 (dc [c0])]::[row b6 5 (dc [b0])]::[row b1 25 [.int .i64 va.v.k,.int .i64 va.v.n,ak va.v.t,.slice va.sA va.v.s.length va.sC]]::R) (i:=0) (off:=0) rfl rfl) hA21.q KY) (by rw [show [b0].length=1 from rfl,show [c0].length=1 from rfl]; decide) ae (fun v1 X1 w22 a hB1 hF hA23=>hK _ _ ?_))
     replace hA23:Hp w0 ([row b19 5 (dc [c0])]::X1::[row b1 25 [.int .i64 va.v.k,.int .i64 va.v.n,ak va.v.t,.slice va.sA va.v.s.length va.sC]]::R) w22:=hA23
     replace hB1:Buf 5 1 X1 v1 ([b0]++[c0]).length (dc ([b0]++[c0])):=by rw [List.length_append,bP]; exact hB1
     refine vR hF<|vX O fun a hF=>?_
     refine aK ?_
     have hA24:Hp w0 (X1::R) w22:=hpS 3 [1] [0,2] hA23 rfl
     exact hJ _ _ v1 _ (by rw [JE hk2,hbe,← hc0]; exact hB1) (hF.keep [5] rfl) hA24
    ·refine ay hF O (by simp [az,hk2]) ?_
     refine wS hF fun K10 hK10=>vV O (yf 0 O Ll O iD O)<|vV O (aW O hA8.q O 1 O O iE)<|vV O (aG O O O O O)<|vE hK10 fun a hF=>?_
     by_cases hk3:va.v.k=3
     ·refine aF hF O (by simp [az,hk3]) ?_
      refine wp_region_lit ?_
      refine vR hF<|vX O<|vV O (yf 2 O Ll O sZ O)<|vV O (aW O hA8.q O 1 O O tZ) fun a hF=>?_
      refine aH O (fun K hK=>aI hF O ae sF rfl rfl ?_)
      with_reducible refine (lW va.v.t _ (by have:=hR.tl; omega) hA8).mono ?_
      rintro e' w25 ⟨vN1,ZN1,rfl,hN1,hA26⟩
      refine ⟨_,rfl,fun a hF=>hK _ _ ?_⟩
      replace hA26:Hp w0 (ZN1::[row b6 5 (dc [b0])]::[row b1 25 [.int .i64 va.v.k,.int .i64 va.v.n,ak va.v.t,.slice va.sA va.v.s.length va.sC]]::R) w25:=hA26
      obtain ⟨_,AN1,cN1,rfl,hcN1,hRN1⟩:=hN1.rd (w0:=w0) (R:=[ZN1]) (La ..)
      refine aH O (fun K hK=>bG hF O ae rfl hA26 1 O hB0 KY bZ rfl rfl (Rc.src hRN1 (Hq.sub hA26.q (List.cons_subset.2 ⟨((La ..)),List.nil_subset _⟩)) KY) (by have:=hR.tl; rw [fG,show [b0].length=1 from rfl]; omega) ae (fun v1 X1 w27 a hB1 hF hA28=>hK _ _ ?_))
      replace hA28:Hp w0 (ZN1::X1::[row b1 25 [.int .i64 va.v.k,.int .i64 va.v.n,ak va.v.t,.slice va.sA va.v.s.length va.sC]]::R) w27:=hA28
      replace hB1:Buf 5 1 X1 v1 ([b0]++nameB va.v.t).length (dc ([b0]++nameB va.v.t)):=by rw [List.length_append,bP]; exact hB1
      refine vR hF<|vX O fun a hF=>?_
      refine aK ?_
      have hA29:Hp w0 (X1::R) w27:=hpS 3 [1] [0,2] hA28 rfl
      exact hJ _ _ v1 _ (by rw [JD hk3,hbe]; exact hB1) (hF.keep [5] rfl) hA29
     ·refine ay hF O (by simp [az,hk3]) ?_
      refine wS hF fun K11 hK11=>vV O (yf 0 O Ll O iD O)<|vV O (aW O hA8.q O 1 O O iE)<|vV O (aG O O O O O)<|vE hK11 fun a hF=>?_
      by_cases hk5:va.v.k=5
      ·refine aF hF O (by simp [az,hk5]) ?_
       have hsl:=hR.sl
       have hml:=hR.ml
       refine wS hF fun K12 hK12=>vX O<|vV O (yf 3 O Ll O kW O)<|vV O (aW O hA8.q O 1 O O kY)<|vV O (aZ O KU O O) fun a hF=>?_
       refine aH O (fun K hK=>aI hF O ae Bz rfl rfl ?_)
       with_reducible refine (gK (va.v.s.length:Int) 2 2 _ O ae hA8).mono ?_
       rintro e' w30 ⟨vN1,ZN1,rfl,hN1,hA31⟩
       refine ⟨_,rfl,fun a hF=>hK _ _ ?_⟩
       replace hA31:Hp w0 (ZN1::[row b6 5 (dc [b0])]::[row b1 25 [.int .i64 va.v.k,.int .i64 va.v.n,ak va.v.t,.slice va.sA va.v.s.length va.sC]]::R) w30:=hA31
       obtain ⟨_,AN1,cN1,rfl,hcN1,hRN1⟩:=hN1.rd (w0:=w0) (R:=[ZN1]) (La ..)
       refine aH O (fun K hK=>bG hF O ae rfl hA31 1 O hB0 KY bZ rfl rfl (Rc.src hRN1 (Hq.sub hA31.q (List.cons_subset.2 ⟨((La ..)),List.nil_subset _⟩)) KY) (by rw [bi,show [b0].length=1 from rfl]; decide) ae (fun v1 X1 w32 a hB1 hF hA33=>hK _ _ ?_))
       replace hA33:Hp w0 (ZN1::X1::[row b1 25 [.int .i64 va.v.k,.int .i64 va.v.n,ak va.v.t,.slice va.sA va.v.s.length va.sC]]::R) w32:=hA33
       replace hB1:Buf 5 1 X1 v1 ([b0]++be 2 (u64 (va.v.s.length:Int))).length (dc ([b0]++be 2 (u64 (va.v.s.length:Int)))):=by rw [List.length_append,bP]; exact hB1
       refine vR hF<|vX O<|vE hK12<|wT fun K13 hK13=>vX O<|vE hK13<|wBk fun a hF=>?_
       rw [sQ (show va.v.s.length<140737488353900 by omega)] at hB1
       have hA34:Hp w0 (X1::[row b1 25 [.int .i64 va.v.k,.int .i64 va.v.n,ak va.v.t,.slice va.sA va.v.s.length va.sC]]::R) w32:=hpS 3 [1,2] [0] hA33 rfl
       refine bM (G:=Nat) (fun i a x=>∃ (vL:Value) (XL:Seg),i≤va.v.s.length∧Buf 5 1 XL vL ([b0]++be 2 va.v.s.length++dY (va.v.s.take i)).length (dc ([b0]++be 2 va.v.s.length++dY (va.v.s.take i)))∧Fr 71 [(6,.int .i64 (i:Int)),(5,vL),(1,.pointer (some ⟨b1,0,none⟩))] a∧Hp w0 (XL::[row b1 25 [.int .i64 va.v.k,.int .i64 va.v.n,ak va.v.t,.slice va.sA va.v.s.length va.sC]]::R) x) (fun i=>va.v.s.length-i) 0 (⟨_,_,KW _,(by rw [List.take_zero,qY,List.append_nil]; exact hB1),hF.keep [6,5,1] rfl,hA34⟩) ?_
       clear hF
       rintro i a w36 ⟨vL,XL,hi,hB2,hF,hA35⟩
       apply wp_seq_k; intro K14 hK14
       refine wS hF fun K15 hK15=>vX O<|vV O (yf 3 O Ll O kW O)<|vV O (aW O hA35.q O 1 O O kY)<|vV O (aZ O KU O O)<|vV O (aG O O O O O)<|vE hK15 fun a hF=>?_
       by_cases hlt:i<va.v.s.length
       ·refine aF hF O (dM ag) ?_
        obtain ⟨q,hp⟩:∃ q,va.v.s[i]? = some q:=⟨_,List.getElem?_eq_getElem hlt⟩
        obtain ⟨b,o,hsA,hc⟩:=hV.rc.ne (i:=i) (by rw [List.length_map]; exact hlt)
        have hq:=hml q (List.mem_of_getElem? hp)
        have hfl:=Ac hml i
        rw [hsA] at hA35
        apply wp_skip
        refine hK14 _ _ ?_
        apply wp_seq_k; intro K16 hK16
        apply wp_block
        refine wp_region_lit ?_
        refine vR hF<|vX O<|vV O (yf 3 O Ll O kW O)<|vV O (aW O hA35.q O 1 O O kY)<|vX O<|vV O (bT O KU sZ O O i rfl hlt (ad2 _ _ _))<|vV O (dQ (u:=ak q) rfl (Hq.sub hA35.q (List.Subset.trans hG ((bF (bF (dH)))))) O hc i (by rw [List.length_map]; exact hlt) rfl (by rw [List.getElem?_map,hp]; rfl) tZ) fun a hF=>?_
        refine aH O (fun K hK=>aI hF O ae sF rfl rfl ?_)
        with_reducible refine (lW q _ ag hA35).mono ?_
        rintro e' w37 ⟨vN2,ZN2,rfl,hN2,hA38⟩
        refine ⟨_,rfl,fun a hF=>hK _ _ ?_⟩
        replace hA38:Hp w0 (ZN2::XL::[row b1 25 [.int .i64 va.v.k,.int .i64 va.v.n,ak va.v.t,.slice (some ⟨b,o,none⟩) va.v.s.length va.sC]]::R) w37:=hA38
        obtain ⟨_,AN2,cN2,rfl,hcN2,hRN2⟩:=hN2.rd (w0:=w0) (R:=[ZN2]) (La ..)
        refine aH O (fun K hK=>bG hF O ae rfl hA38 1 O hB2 KY bZ rfl rfl (Rc.src hRN2 (Hq.sub hA38.q (List.cons_subset.2 ⟨((La ..)),List.nil_subset _⟩)) KY) (by rw [List.length_append,List.length_append,bi,fG,show [b0].length=1 from rfl]; omega) ae (fun v3 X3 w39 a hB3 hF hA40=>hK _ _ ?_))
        replace hA40:Hp w0 (ZN2::X3::[row b1 25 [.int .i64 va.v.k,.int .i64 va.v.n,ak va.v.t,.slice (some ⟨b,o,none⟩) va.v.s.length va.sC]]::R) w39:=hA40
        replace hB3:Buf 5 1 X3 v3 (([b0]++be 2 va.v.s.length++dY (va.v.s.take i))++nameB q).length (dc (([b0]++be 2 va.v.s.length++dY (va.v.s.take i))++nameB q)):=by rw [List.length_append,bP]; exact hB3
        refine vR hF<|vX O fun a hF=>aK<|hK16 _ _ ?_
        refine wp_region_lit ?_
        refine vR hF<|vX O<|vV O (bU O O O (KX _ ag))<|vX O fun a hF=>?_
        refine aK ?_
        rw [← hsA] at hA40
        have hA41:Hp w0 (X3::[row b1 25 [.int .i64 va.v.k,.int .i64 va.v.n,ak va.v.t,.slice va.sA va.v.s.length va.sC]]::R) w39:=hpS 3 [1,2] [0] hA40 rfl
        exact ⟨i+1,ag,_,_,ag,by rw [jI hp,← List.append_assoc]; exact hB3,hF.keep [6,5,1] rfl,hA41⟩
       ·refine ay hF O (dG ag) ?_
        obtain rfl:i=va.v.s.length:=by omega
        rw [List.take_length,List.append_assoc] at hB2
        apply wp_exit
        have hA42:Hp w0 (XL::R) w36:=hpS 2 [0] [1] hA35 rfl
        exact hJ _ _ vL _ (by rw [JC hk5,hbe]; exact hB2) (hF.keep [5] rfl) hA42
      ·refine ay hF O (by simp [az,hk5]) ?_
       apply wp_skip
       have hA43:Hp w0 ([row b6 5 (dc [b0])]::R) w7:=hpS 2 [0] [1] hA8 rfl
       exact hJ _ _ _ _ (by rw [JF ag,hbe]; exact hB0) (hF.keep [5] rfl) hA43
 ·refine aF hF O (fO ag) ?_
  refine wS hF fun K17 hK17=>vX O<|vX O<|vX O<|vE hK17 fun a hF=>?_
  apply wp_ret
  simp only [Exit.then]
  refine eu hF Tryz.results49 O O ?_
  have hA44:Hp w0 (R) w4:=hpS 1 [] [0] hA5 rfl
  exact ⟨_,[],rfl,by rw [show va.v.put=[] from if_neg hr0]; exact Buf.nil _ _,Hp.nil hA44⟩
section
variable {P:Program} {w w0:World} {n:Nat} {F:List (Nat × Value)} {a:Act} {L:List Row} {R:List Seg}
theorem vH {fn:Func} {t u s:Tmp} {ty:TypeId} (h:fn.results = #[.cell u ty,.tmp t,.tmp s]) {tmps:Array Value} (hA:At w0 L w) {g:Nat} (hx:tmps.getD u undef= .pointer (some ⟨g,0,none⟩))
  (k:Nat) {te:TypeId} {cs:List Value} (hk:L[k]? = some (g,te,cs)) (hr:isRow P ty cs.length=true):(results fn tmps).run P w= .ok (.tuple #[.agg cs.toArray,tmps.getD t undef,tmps.getD s undef]) w:=by
 obtain ⟨d,hu,hd,hi⟩:=jf hr
 have h1:=run_loadVar_mid (P:=P) w g 0 ty cs d (by simpa using hA.range hk 0 cs.length) hu hd hi
 have hx':tmps[u]?.getD undef= .pointer (some ⟨g,0,none⟩):=by simpa using hx
 simp [results,h,hx',h1,asAddr]
theorem kT {fn:Func} {RR:Ending→World→Prop} {t u s:Tmp} {ty te:TypeId} {g:Nat} {cs:List Value} {T:Seg} {v x:Value} (hF:Fr n F a) (hr:fn.results = #[.cell u ty,.tmp t,.tmp s]) (hA:Hq w0 R w) (hl2:Go.Dk.look F u=some (.pointer (some ⟨g,0,none⟩))) (hl:Go.Dk.look F t=some v) (hl3:Go.Dk.look F s=some x)
  (k:Nat) (hk:nth R k=some (row g te cs::T)) (hrow:isRow P ty cs.length=true) (h:RR (.returned (.tuple #[.agg cs.toArray,v,x])) w):bodyPost P fn RR .ret a w :=
 bodyPost_ret (vH hr (At.start1 (hA.rowAt hk)) (hF.at hl2) 0 rfl hrow) hF.defers (by rw [hF.at hl,hF.at hl3]; exact h)
end
theorem lL:bu [] 0 0=⟨noVal,0,8⟩:=by rfl
theorem Gf (b:UInt8) (r:List UInt8):got (cO 1) 0 (b::r) 0 0=⟨b.toNat,1,0⟩:=by
 have h:=jS (K:=1) (n:=b.toNat) (l:=b::r) (s:=r) (p:=0) b.toNat_lt (by rw [qG,UInt8.ofNat_toNat]; rfl)
 rw [h.1,bi]
theorem pK {α:Type} {r:Res α} (h:r.why 0≠0):r.pl 0 0=0:=by
 cases r with
 | ok v k=>exact absurd rfl h
 | no e=>rfl
theorem IW {α:Type} (r:Res α):r.pl 1 0=1+r.pl 0 0:=by
 cases r with
 | ok v k=>show 1+k=1+(0+k); omega
 | no e=>rfl
theorem zh {α:Type} (r:List UInt8→Res α) (d:α) (b:UInt8) (l:List UInt8):got r d (b::l) 1 0=⟨(r l).val d 0,1+(r l).pl 0 0,(r l).why 0⟩:=by
 unfold got
 rw [show (b::l).drop 1=l from rfl,IW]
theorem JZ {b:UInt8} {r:List UInt8} (h:b.toNat=1∨b.toNat=4):dA b.toNat (b::r) 1 0=⟨⟨b.toNat,i64 ((cO 8 r).val 0 0),[],[]⟩,1+(cO 8 r).pl 0 0,(cO 8 r).why 0⟩:=nD h (zh (cO 8) 0 b r)
theorem JY {b:UInt8} {r:List UInt8} {f:Bool} (h:b.toNat=2) (hf:(dZ r).val false 0=f):dA b.toNat (b::r) 1 0=⟨⟨b.toNat,if f then 1 else 0,[],[]⟩,1+(dZ r).pl 0 0,(dZ r).why 0⟩:=nC h (by rw [zh dZ false b r,hf])
theorem KO {b:UInt8} {r:List UInt8} (h:b.toNat=3):dA b.toNat (b::r) 1 0=⟨⟨b.toNat,0,(bW r 1024).val [] 0,[]⟩,1+(bW r 1024).pl 0 0,(bW r 1024).why 0⟩:=rV h (zh (bW · 1024) [] b r)
theorem KN {b:UInt8} {r:List UInt8} (h:b.toNat=5):dA b.toNat (b::r) 1 0=⟨⟨b.toNat,0,[],(df r 64 1024).val [] 0⟩,1+(df r 64 1024).pl 0 0,(df r 64 1024).why 0⟩:=rU h (zh (df · 64 1024) [] b r)
theorem KP {b:UInt8} {r:List UInt8} (h:b.toNat=0∨(¬ b.toNat=1∧¬ b.toNat=4∧¬ b.toNat=2∧¬ b.toNat=3∧¬ b.toNat=5)):dA b.toNat (b::r) 1 0=⟨⟨b.toNat,0,[],[]⟩,1+0,0⟩:=lg h
theorem rH {α:Type} {r:Res α} {n:Nat} (h:∀ v k,r= .ok v k→k≤n):r.pl 0 0≤n:=by
 cases hr:r with
 | ok v k=>have:=h v k hr; show 0+k≤n; omega
 | no e=>exact KW _
theorem xQ (r:List UInt8) (K:Nat):(cO K r).pl 0 0≤r.length:=rH fun _ _ h=>tV h
theorem zq (r:List UInt8):(dZ r).pl 0 0≤r.length:=rH fun _ _ h=>wz h
theorem yI (r:List UInt8) (m:Int):(bW r m).pl 0 0≤r.length:=rH fun _ _ h=>jB h
theorem BZ (r:List UInt8):(df r 64 1024).pl 0 0≤r.length:=rH fun _ _ h=>qZ h
theorem oN (r:List UInt8):(cO 8 r).val 0 0<18446744073709551616:=jO 8 r 0 0
set_option maxRecDepth 100000 in
set_option maxHeartbeats 8000000 in
theorem FI {w0:World} {R:List Seg} {G:List Seg} (A:Option Addr) (r:List UInt8) (c:Nat) (w:World) (hR:Rd w0 G A r) (hc:r.length≤c) (hl:r.length<140737488354000) (hG:G⊆R) (hA:Hp w0 R w):Calls Tryz.prog 54 #[.slice A r.length c] w fun e w'=>∃ (va:VA) (Z:Seg),e= .returned (.tuple #[.agg va.cells.toArray,.int .i64 ((bu r 0 0).p:Nat),.int .i64 ((bu r 0 0).y:Nat)])∧va.v=(bu r 0 0).v∧va.Ok w0 [Z]∧(bu r 0 0).p≤r.length∧Hp w0 (Z::R) w':=by
 refine aO Tryz.func54 O Tryz.ntmps54 ai (fun a hF=>?_)
 refine wp_seq_k fun K1 hK1=>wp_region_lit ?_
 refine aH O (fun K hK=>dw hF O ae rfl hA (yE) (fun b1 w2 a hb1 hF hA3=>hK _ _ ?_))
 refine vR hF<|vX O<|vX O<|vE hK1<|wQ fun K2 hK2=>wT fun K3 hK3=>vX O<|vV O (aZ O KY O O)<|vV O (aG O O O O O)<|vE hK3 fun a hF=>?_
 by_cases h0:r.length=0
 ·obtain rfl:r=[]:=List.length_eq_zero_iff.1 h0
  refine aF hF O (eH rfl) ?_
  refine wS hF fun K4 hK4=>vV O (dS O nG) fun a hF=>?_
  refine aH O (fun K hK=>bg (new:=[.int .i64 0,.int .i64 0,ak [],.slice none 0 0]) hF O O hA3 O O 0 O O (by simp [Value.oneCell']) lV (fun w4 hA5=>hK _ _ ?_))
  replace hA5:Hp w0 ([row b1 25 [.int .i64 0,.int .i64 0,ak [],.slice none 0 0]]::R) w4:=hA5
  refine vR hF<|vX O<|vX O<|vE hK4 fun a hF=>?_
  apply wp_ret
  simp only [Exit.then]
  refine kT hF Tryz.results54 hA5.q O O O 0 O FD ?_
  have hA6:Hp w0 (R) w4:=hpS 1 [] [0] hA5 rfl
  exact ⟨noVA,[],by rw [lL]; rfl,by rw [lL]; rfl,ui,by rw [lL]; exact KZ _,(Hp.nil hA6)⟩
 ·refine ay hF O (bK ag) ?_
  obtain ⟨b0,r1,rfl⟩:∃ b0 r1,r=b0::r1:=by
   cases r with
   | nil=>exact absurd rfl h0
   | cons b l=>exact ⟨b,l,rfl⟩
  obtain ⟨bx,ox,hAx,hcx⟩:=hR.ne (i:=0) (Nat.succ_pos _)
  have hFn:=hF
  subst hAx
  have hF:=hFn
  clear hFn
  have hb0:=b0.toNat_lt
  have hc1:r1.length+1≤c:=hc
  have hR1:Rd w0 G (sub (some ⟨bx,ox,none⟩) 1 c 1) r1:=Rd.drop hR 1 hc
  have hl1:r1.length<140737488354000:=by rw [List.length_cons] at hl; omega
  have hg1:got (cO 1) 0 (b0::r1) 0 0=⟨b0.toNat,1,0⟩:=Gf b0 r1
  apply wp_skip
  refine hK2 _ _ ?_
  refine wS hF fun K5 hK5=>vX O<|vV O (bT O KY tq O O 0 O (Nat.succ_pos _) rfl)<|vV O (dQ (u:= .int .u8 (b0.toNat:Int)) O (Hq.sub hA3.q (List.Subset.trans hG ((bF (dH))))) O hcx 0 (Nat.succ_pos _) rfl rfl uf)<|vV O (bI O Lt Ls O (KX _ ag))<|vV O (fU (qs := #[(0,.int .i64 ((b0.toNat:Nat):Int))]) O O (D7 _)) fun a hF=>?_
  refine aH O (fun K hK=>dw hF O ae rfl hA3 (yE) (fun b7 w8 a hb7 hF hA9=>hK _ _ ?_))
  refine aH O (fun K hK=>bg (new:=[.int .i64 ((b0.toNat:Nat):Int),.int .i64 0,ak [],.slice none 0 0]) hF O O hA9 O O 0 O O (by simp [Value.oneCell']) lV (fun w10 hA11=>hK _ _ ?_))
  replace hA11:Hp w0 ([row b7 25 [.int .i64 ((b0.toNat:Nat):Int),.int .i64 0,ak [],.slice none 0 0]]::[row b1 25 [.int .i64 0,.int .i64 0,.string (⟨#[]⟩),.slice none 0 0]]::R) w10:=hA11
  refine aK<|hK5 _ _ ?_
  refine wS hF fun K6 hK6=>vX O<|vE hK6<|wT fun K7 hK7=>vX O<|vE hK7<|wQ fun K8 hK8=>wT fun K9 hK9=>vV O (yf 0 O Ll O iD O)<|vV O (aW O hA11.q O 0 O O iE)<|vV O (aG O O O O O)<|vX O fun a hF=>?_
  refine aY (l2:=?lA1) hF [(26,.bool ((az .eql (((b0.toNat:Nat):Int)) (1)) || (az .eql (((b0.toNat:Nat):Int)) (4)))),(2,.pointer (some ⟨b1,0,none⟩)),(0,.slice (some ⟨bx,ox,none⟩) ((b0::r1).length) c),(14,.slice (some ⟨bx,ox,none⟩) ((b0::r1).length) c),(16,.int .u8 ((b0.toNat:Nat):Int)),(17,.int .i64 ((b0.toNat:Nat):Int)),(18,.agg ([.int .i64 ((b0.toNat:Nat):Int),.int .i64 0,ak [],.slice none 0 0]).toArray),(5,.pointer (some ⟨b7,0,none⟩)),(6,.int .i64 0),(7,.int .i64 0)] (fun hJ1=>?elA1) (fun a hF=>?flA1)
  case elA1 =>
   rcases tf (az .eql (((b0.toNat:Nat):Int)) (1)) with hg1 | hg1
   ·refine aB hF O O O O (aj hg1) ae _ (yf 0 O Ll O iD O) (fun a hF=>?_)
    refine aB hF O O O O (aj hg1) ae _ (aW O hA11.q O 0 O O iE) (fun a hF=>?_)
    refine aB hF O O O O (aj hg1) ae _ (aG O O O O O) (fun a hF=>?_)
    refine vR hF<|vV O (aS hg1 rfl rfl rfl) fun a hF=>?_
    exact hJ1 _ ((hF.keep [26,2,0,14,16,17,18,5,6,7] (F':=[(26,_),(2,_),(0,_),(14,_),(16,_),(17,_),(18,_),(5,_),(6,_),(7,_)]) O).bool (by rw [hg1]; rfl))
   ·refine au hF O O O O O (ax hg1) ae (fun a hF=>?_)
    refine au hF O O O O O (ax hg1) ae (fun a hF=>?_)
    refine au hF O O O O O (ax hg1) ae (fun a hF=>?_)
    refine vR hF<|vV O (aT hg1 rfl rfl rfl) fun a hF=>?_
    exact hJ1 _ ((hF.keep [26,2,0,14,16,17,18,5,6,7] (F':=[(26,_),(2,_),(0,_),(14,_),(16,_),(17,_),(18,_),(5,_),(6,_),(7,_)]) O).bool (by rw [hg1]; rfl))
  refine aK<|hK9 _ _ ?_
  have hJ:∀ (a:Act) (x:World) (vb:VA) (Z:Seg) (k1 kp e1:Nat),dA b0.toNat (b0::r1) 1 0=⟨vb.v,1+kp,e1⟩→vb.Ok w0 [Z]→(e1=0→k1=kp)→(e1≠0→kp=0)→kp≤r1.length→True→Fr 84 [(6,.int .i64 (k1:Nat)),(7,.int .i64 (e1:Nat)),(2,.pointer (some ⟨b1,0,none⟩)),(5,.pointer (some ⟨b7,0,none⟩))] a→Hp w0 (Z::[row b7 25 [.int .i64 vb.v.k,.int .i64 vb.v.n,ak vb.v.t,.slice vb.sA vb.v.s.length vb.sC]]::[row b1 25 [.int .i64 0,.int .i64 0,.string (⟨#[]⟩),.slice none 0 0]]::R) x→K8 a x:=by
   clear hF
   intro a x vb Z k1 kp e1 hg2 hb hk1 hk0 hkp _ hF hA
   by_cases he:e1=0
   ·subst he
    obtain rfl:=hk1 rfl
    refine hK8 _ _ ?_
    apply wp_seq_k; intro K10 hK10
    refine wS hF fun K11 hK11=>vX O<|vV O (aG O O O O (eP rfl))<|vE hK11 fun a hF=>?_
    refine ay hF O O ?_
    apply wp_skip
    refine hK10 _ _ ?_
    apply wp_seq_k; intro K12 hK12
    refine wS hF fun K13 hK13=>vV O (dm (new:=[.int .i64 vb.v.k,.int .i64 vb.v.n,ak vb.v.t,.slice vb.sA vb.v.s.length vb.sC]) O hA.q O 1 O FD ai rfl) fun a hF=>?_
    refine aH O (fun K hK=>aI hF O ae sG rfl rfl ?_)
    with_reducible refine (uX vb _ hb (List.cons_subset.2 ⟨((La ..)),List.nil_subset _⟩) hA).mono ?_
    rintro e' w12 ⟨rfl,hA13⟩
    refine ⟨_,rfl,fun a hF=>hK _ _ ?_⟩
    replace hA13:Hp w0 (Z::[row b7 25 [.int .i64 vb.v.k,.int .i64 vb.v.n,ak vb.v.t,.slice vb.sA vb.v.s.length vb.sC]]::[row b1 25 [.int .i64 0,.int .i64 0,.string (⟨#[]⟩),.slice none 0 0]]::R) w12:=hA13
    refine vR hF<|vV O (aG O O O O O)<|vE hK13 fun a hF=>?_
    by_cases hr:vb.v.right=0
    ·refine ay hF O (eP ag) ?_
     apply wp_skip
     refine hK12 _ _ ?_
     refine wS hF fun K14 hK14=>vV O (dm (new:=[.int .i64 vb.v.k,.int .i64 vb.v.n,ak vb.v.t,.slice vb.sA vb.v.s.length vb.sC]) O hA13.q O 1 O FD ai rfl)<|vX O<|vV O (bU O O O (show IntKind.i64.wrap (1+((k1:Nat):Int))=((1+k1:Nat):Int) by rw [KX _ ag]; omega)) fun a hF=>?_
     refine aH O (fun K hK=>bg (new:=[.int .i64 vb.v.k,.int .i64 vb.v.n,ak vb.v.t,.slice vb.sA vb.v.s.length vb.sC]) hF O O hA13 O O 2 O O (by simp [Value.oneCell']) lV (fun w14 hA15=>hK _ _ ?_))
     replace hA15:Hp w0 (Z::[row b7 25 [.int .i64 vb.v.k,.int .i64 vb.v.n,ak vb.v.t,.slice vb.sA vb.v.s.length vb.sC]]::[row b1 25 [.int .i64 vb.v.k,.int .i64 vb.v.n,ak vb.v.t,.slice vb.sA vb.v.s.length vb.sC]]::R) w14:=hA15
     refine vR hF<|vX O<|vX O<|vE hK14 fun a hF=>?_
     apply wp_ret
     refine kT hF Tryz.results54 hA15.q O O O 2 O FD ?_
     have hA16:Hp w0 (Z::R) w14:=hpS 3 [0] [1,2] hA15 rfl
     exact ⟨vb,Z,by rw [Gs hg1 hg2 hr]; rfl,by rw [Gs hg1 hg2 hr],hb,by rw [Gs hg1 hg2 hr]; show 1+k1≤r1.length+1; omega,hA16⟩
    ·refine aF hF O (fO ag) ?_
     refine wS hF fun K15 hK15=>vV O (dS O nG)<|vX O<|vV O (bU O O O (show IntKind.i64.wrap (1+((k1:Nat):Int))=((1+k1:Nat):Int) by rw [KX _ ag]; omega)) fun a hF=>?_
     refine aH O (fun K hK=>bg (new:=[.int .i64 0,.int .i64 0,ak [],.slice none 0 0]) hF O O hA13 O O 2 O O (by simp [Value.oneCell']) lV (fun w17 hA18=>hK _ _ ?_))
     replace hA18:Hp w0 (Z::[row b7 25 [.int .i64 vb.v.k,.int .i64 vb.v.n,ak vb.v.t,.slice vb.sA vb.v.s.length vb.sC]]::[row b1 25 [.int .i64 0,.int .i64 0,ak [],.slice none 0 0]]::R) w17:=hA18
     refine vR hF<|vX O<|vX O<|vE hK15 fun a hF=>?_
     apply wp_ret
     simp only [Exit.then]
     refine kT hF Tryz.results54 hA18.q O O O 2 O FD ?_
     have hA19:Hp w0 (R) w17:=hpS 3 [] [0,1,2] hA18 rfl
     exact ⟨noVA,[],by rw [Gq hg1 hg2 hr]; rfl,by rw [Gq hg1 hg2 hr]; rfl,ui,by rw [Gq hg1 hg2 hr]; show 1+k1≤r1.length+1; omega,(Hp.nil hA19)⟩
   ·obtain rfl:=hk0 he
    refine hK8 _ _ ?_
    apply wp_seq_k; intro K16 hK16
    refine wS hF fun K17 hK17=>vX O<|vV O (aG O O O O (fO ag))<|vE hK17 fun a hF=>?_
    refine aF hF O O ?_
    refine wS hF fun K18 hK18=>vV O (dS O nG)<|vX O fun a hF=>?_
    refine aH O (fun K hK=>bg (new:=[.int .i64 0,.int .i64 0,ak [],.slice none 0 0]) hF O O hA O O 2 O O (by simp [Value.oneCell']) lV (fun w20 hA21=>hK _ _ ?_))
    replace hA21:Hp w0 (Z::[row b7 25 [.int .i64 vb.v.k,.int .i64 vb.v.n,ak vb.v.t,.slice vb.sA vb.v.s.length vb.sC]]::[row b1 25 [.int .i64 0,.int .i64 0,ak [],.slice none 0 0]]::R) w20:=hA21
    refine vR hF<|vX O<|vX O<|vE hK18 fun a hF=>?_
    apply wp_ret
    simp only [Exit.then]
    refine kT hF Tryz.results54 hA21.q O O O 2 O FD ?_
    have hA22:Hp w0 (R) w20:=hpS 3 [] [0,1,2] hA21 rfl
    exact ⟨noVA,[],by rw [DJ hg1 hg2 he]; rfl,by rw [DJ hg1 hg2 he]; rfl,ui,by rw [DJ hg1 hg2 he]; show 1+0≤r1.length+1; omega,(Hp.nil hA22)⟩
  by_cases hk1:b0.toNat=1
  ·refine aF hF O (by have e:((b0.toNat:Nat):Int)=1:=ag; rw [e]; rfl) ?_
   refine wS hF fun K19 hK19=>vX O<|vE hK19<|wT fun K20 hK20=>vX O<|vV O (eX O KY eG rfl (.some (k:=1) rfl rfl) (.none _) (Nat.succ_le_succ (KW _)) hc (show Value.slice (sub (some ⟨bx,ox,none⟩) 1 c 1) ((b0::r1).length-1) (c-1)= .slice (sub (some ⟨bx,ox,none⟩) 1 c 1) r1.length (c-1) from rfl)) fun a hF=>?_
   refine aH O (fun K hK=>aI hF O ae mJ rfl rfl ?_)
   with_reducible refine (iY w0 _ ([row b7 25 [.int .i64 ((b0.toNat:Nat):Int),.int .i64 0,ak [],.slice none 0 0]]::[row b1 25 [.int .i64 0,.int .i64 0,.string (⟨#[]⟩),.slice none 0 0]]::R) (sub (some ⟨bx,ox,none⟩) 1 c 1) r1 (c-1) 8 8 O ae (hR1.mono (List.Subset.trans hG (bF (bF (dH))))) hA11 hl1).mono ?_
   rintro e' w25 ⟨rfl,rfl⟩
   refine ⟨_,rfl,fun a hF=>hK _ _ ?_⟩
   refine vR hF<|vX O<|vV O (aJ (v:= .int .u64 ((((cO 8 r1).val 0 0):Nat):Int)) O O O)<|vV O (aJ (v:= .int .i64 ((((cO 8 r1).pl 0 0):Nat):Int)) O O O)<|vV O (aJ (v:= .int .i64 ((((cO 8 r1).why 0):Nat):Int)) O O O)<|vX O<|vX O<|vX O<|vE hK20 fun a hF=>?_
   refine wp_region_lit ?_
   refine vR hF<|vX O<|vV O (bI O Lu Lh O (iI (oN r1)))<|vV O (yf 1 O Ll O gU O) fun a hF=>?_
   refine aH O (fun K hK=>bz hF O O hA11 O O 0 O (by simp) rfl gU (fun w26 hA27=>hK _ _ ?_))
   replace hA27:Hp w0 ([row b7 25 [.int .i64 ((b0.toNat:Nat):Int),.int .i64 (i64 ((cO 8 r1).val 0 0)),ak [],.slice none 0 0]]::[row b1 25 [.int .i64 0,.int .i64 0,.string (⟨#[]⟩),.slice none 0 0]]::R) w26:=hA27
   refine aK ?_
   exact hJ _ _ ⟨⟨((b0.toNat:Nat):Int),i64 ((cO 8 r1).val 0 0),[],[]⟩,none,0⟩ [] ((cO 8 r1).pl 0 0) ((cO 8 r1).pl 0 0) ((cO 8 r1).why 0) (JZ (.inl hk1)) (jw hb0 (i64_in (oN r1))) (fun _=>rfl) (pK) (xQ r1 8) (trivial) (hF.keep [6,7,2,5] rfl) (Hp.nil hA27)
  ·by_cases hk4:b0.toNat=4
   ·refine aF hF O (by have e:((b0.toNat:Nat):Int)=4:=ag; rw [e]; rfl) ?_
    refine wS hF fun K21 hK21=>vX O<|vE hK21<|wT fun K22 hK22=>vX O<|vV O (eX O KY eG rfl (.some (k:=1) rfl rfl) (.none _) (Nat.succ_le_succ (KW _)) hc (show Value.slice (sub (some ⟨bx,ox,none⟩) 1 c 1) ((b0::r1).length-1) (c-1)= .slice (sub (some ⟨bx,ox,none⟩) 1 c 1) r1.length (c-1) from rfl)) fun a hF=>?_
    refine aH O (fun K hK=>aI hF O ae mJ rfl rfl ?_)
    with_reducible refine (iY w0 _ ([row b7 25 [.int .i64 ((b0.toNat:Nat):Int),.int .i64 0,ak [],.slice none 0 0]]::[row b1 25 [.int .i64 0,.int .i64 0,.string (⟨#[]⟩),.slice none 0 0]]::R) (sub (some ⟨bx,ox,none⟩) 1 c 1) r1 (c-1) 8 8 O ae (hR1.mono (List.Subset.trans hG (bF (bF (dH))))) hA11 hl1).mono ?_
    rintro e' w30 ⟨rfl,rfl⟩
    refine ⟨_,rfl,fun a hF=>hK _ _ ?_⟩
    refine vR hF<|vX O<|vV O (aJ (v:= .int .u64 ((((cO 8 r1).val 0 0):Nat):Int)) O O O)<|vV O (aJ (v:= .int .i64 ((((cO 8 r1).pl 0 0):Nat):Int)) O O O)<|vV O (aJ (v:= .int .i64 ((((cO 8 r1).why 0):Nat):Int)) O O O)<|vX O<|vX O<|vX O<|vE hK22 fun a hF=>?_
    refine wp_region_lit ?_
    refine vR hF<|vX O<|vV O (bI O Lu Lh O (iI (oN r1)))<|vV O (yf 1 O Ll O gU O) fun a hF=>?_
    refine aH O (fun K hK=>bz hF O O hA11 O O 0 O (by simp) rfl gU (fun w31 hA32=>hK _ _ ?_))
    replace hA32:Hp w0 ([row b7 25 [.int .i64 ((b0.toNat:Nat):Int),.int .i64 (i64 ((cO 8 r1).val 0 0)),ak [],.slice none 0 0]]::[row b1 25 [.int .i64 0,.int .i64 0,.string (⟨#[]⟩),.slice none 0 0]]::R) w31:=hA32
    refine aK ?_
    exact hJ _ _ ⟨⟨((b0.toNat:Nat):Int),i64 ((cO 8 r1).val 0 0),[],[]⟩,none,0⟩ [] ((cO 8 r1).pl 0 0) ((cO 8 r1).pl 0 0) ((cO 8 r1).why 0) (JZ (.inr hk4)) (jw hb0 (i64_in (oN r1))) (fun _=>rfl) (pK) (xQ r1 8) (trivial) (hF.keep [6,7,2,5] rfl) (Hp.nil hA32)
   ·refine ay hF O (by simp only [az,Bool.or_eq_false_iff,beq_eq_false_iff_ne]; omega) ?_
    refine wS hF fun K23 hK23=>vV O (yf 0 O Ll O iD O)<|vV O (aW O hA11.q O 0 O O iE)<|vV O (aG O O O O O)<|vE hK23 fun a hF=>?_
    by_cases hk2:b0.toNat=2
    ·refine aF hF O (eH ag) ?_
     refine wS hF fun K24 hK24=>vX O<|vE hK24<|wT fun K25 hK25=>vX O<|vV O (eX O KY eG rfl (.some (k:=1) rfl rfl) (.none _) (Nat.succ_le_succ (KW _)) hc (show Value.slice (sub (some ⟨bx,ox,none⟩) 1 c 1) ((b0::r1).length-1) (c-1)= .slice (sub (some ⟨bx,ox,none⟩) 1 c 1) r1.length (c-1) from rfl)) fun a hF=>?_
     refine aH O (fun K hK=>aI hF O ae Bv rfl rfl ?_)
     with_reducible refine (FP w0 _ ([row b7 25 [.int .i64 ((b0.toNat:Nat):Int),.int .i64 0,ak [],.slice none 0 0]]::[row b1 25 [.int .i64 0,.int .i64 0,.string (⟨#[]⟩),.slice none 0 0]]::R) (sub (some ⟨bx,ox,none⟩) 1 c 1) r1 (c-1) (hR1.mono (List.Subset.trans hG (bF (bF (dH))))) hA11).mono ?_
     rintro e' w35 ⟨rfl,rfl⟩
     refine ⟨_,rfl,fun a hF=>hK _ _ ?_⟩
     refine vR hF<|vX O<|vV O (aJ (v:= .bool ((dZ r1).val false 0)) O O O)<|vV O (aJ (v:= .int .i64 ((((dZ r1).pl 0 0):Nat):Int)) O O O)<|vV O (aJ (v:= .int .i64 ((((dZ r1).why 0):Nat):Int)) O O O)<|vX O<|vX O<|vX O<|vE hK25<|wT fun K26 hK26=>vX O<|vE hK26 fun a hF=>?_
     rcases tf ((dZ r1).val false 0) with hfb | hfb
     ·refine ay hF O hfb ?_
      apply wp_skip
      exact hJ _ _ ⟨⟨((b0.toNat:Nat):Int),0,[],[]⟩,none,0⟩ [] ((dZ r1).pl 0 0) ((dZ r1).pl 0 0) ((dZ r1).why 0) (JY hk2 hfb) (jw hb0 ae) (fun _=>rfl) (pK) (zq r1) (trivial) (hF.keep [6,7,2,5] rfl) (Hp.nil hA11)
     ·refine aF hF O hfb ?_
      refine wp_region_lit ?_
      refine vR hF<|vV O (yf 1 O Ll O gU O) fun a hF=>?_
      refine aH O (fun K hK=>bz hF O O hA11 O O 0 O (by simp) rfl gU (fun w36 hA37=>hK _ _ ?_))
      replace hA37:Hp w0 ([row b7 25 [.int .i64 ((b0.toNat:Nat):Int),.int .i64 1,ak [],.slice none 0 0]]::[row b1 25 [.int .i64 0,.int .i64 0,.string (⟨#[]⟩),.slice none 0 0]]::R) w36:=hA37
      refine aK ?_
      exact hJ _ _ ⟨⟨((b0.toNat:Nat):Int),1,[],[]⟩,none,0⟩ [] ((dZ r1).pl 0 0) ((dZ r1).pl 0 0) ((dZ r1).why 0) (JY hk2 hfb) (jw hb0 ae) (fun _=>rfl) (pK) (zq r1) (trivial) (hF.keep [6,7,2,5] rfl) (Hp.nil hA37)
    ·by_cases hk3:b0.toNat=3
     ·refine ay hF O (bK ag) ?_
      refine wS hF fun K27 hK27=>vV O (yf 0 O Ll O iD O)<|vV O (aW O hA11.q O 0 O O iE)<|vV O (aG O O O O O)<|vE hK27 fun a hF=>?_
      refine aF hF O (eH ag) ?_
      refine wp_region_lit ?_
      refine vR hF<|vX O<|vV O (eX O KY eG rfl (.some (k:=1) rfl rfl) (.none _) (Nat.succ_le_succ (KW _)) hc (show Value.slice (sub (some ⟨bx,ox,none⟩) 1 c 1) ((b0::r1).length-1) (c-1)= .slice (sub (some ⟨bx,ox,none⟩) 1 c 1) r1.length (c-1) from rfl)) fun a hF=>?_
      refine aH O (fun K hK=>aI hF O ae xk rfl rfl ?_)
      with_reducible refine (oK w0 _ ([row b7 25 [.int .i64 ((b0.toNat:Nat):Int),.int .i64 0,ak [],.slice none 0 0]]::[row b1 25 [.int .i64 0,.int .i64 0,.string (⟨#[]⟩),.slice none 0 0]]::R) (sub (some ⟨bx,ox,none⟩) 1 c 1) r1 (c-1) r1.length 1024 rfl ag (hR1.mono (List.Subset.trans hG (bF (bF (dH))))) hA11 hl1).mono ?_
      rintro e' w38 ⟨k3,rfl,hk3e,hA39⟩
      refine ⟨_,rfl,fun a hF=>hK _ _ ?_⟩
      refine vR hF<|vX O<|vV O (aJ (v:=ak ((bW r1 1024).val [] 0)) O O O)<|vV O (aJ (v:= .int .i64 ((k3:Nat):Int)) O O O)<|vV O (aJ (v:= .int .i64 ((((bW r1 1024).why 0):Nat):Int)) O O O)<|vV O (yf 2 O Ll O sZ O) fun a hF=>?_
      refine aH O (fun K hK=>bz hF O O hA39 O O 0 O (by simp) rfl sZ (fun w40 hA41=>hK _ _ ?_))
      replace hA41:Hp w0 ([row b7 25 [.int .i64 ((b0.toNat:Nat):Int),.int .i64 0,ak ((bW r1 1024).val [] 0),.slice none 0 0]]::[row b1 25 [.int .i64 0,.int .i64 0,.string (⟨#[]⟩),.slice none 0 0]]::R) w40:=hA41
      refine vR hF<|vX O<|vX O fun a hF=>?_
      refine aK ?_
      exact hJ _ _ ⟨⟨((b0.toNat:Nat):Int),0,((bW r1 1024).val [] 0),[]⟩,none,0⟩ [] k3 ((bW r1 1024).pl 0 0) ((bW r1 1024).why 0) (KO hk3) (jw hb0 ae) (hk3e) (pK) (yI r1 1024) (trivial) (hF.keep [6,7,2,5] rfl) (Hp.nil hA41)
     ·by_cases hk5:b0.toNat=5
      ·refine ay hF O (bK ag) ?_
       refine wS hF fun K28 hK28=>vV O (yf 0 O Ll O iD O)<|vV O (aW O hA11.q O 0 O O iE)<|vV O (aG O O O O O)<|vE hK28 fun a hF=>?_
       refine ay hF O (bK ag) ?_
       refine wS hF fun K29 hK29=>vV O (yf 0 O Ll O iD O)<|vV O (aW O hA11.q O 0 O O iE)<|vV O (aG O O O O O)<|vE hK29 fun a hF=>?_
       refine aF hF O (eH ag) ?_
       refine wp_region_lit ?_
       refine vR hF<|vX O<|vV O (eX O KY eG rfl (.some (k:=1) rfl rfl) (.none _) (Nat.succ_le_succ (KW _)) hc (show Value.slice (sub (some ⟨bx,ox,none⟩) 1 c 1) ((b0::r1).length-1) (c-1)= .slice (sub (some ⟨bx,ox,none⟩) 1 c 1) r1.length (c-1) from rfl)) fun a hF=>?_
       refine aH O (fun K hK=>aI hF O ae Bq rfl rfl ?_)
       with_reducible refine (CO w0 _ ([row b7 25 [.int .i64 ((b0.toNat:Nat):Int),.int .i64 0,ak [],.slice none 0 0]]::[row b1 25 [.int .i64 0,.int .i64 0,.string (⟨#[]⟩),.slice none 0 0]]::R) (sub (some ⟨bx,ox,none⟩) 1 c 1) r1 (c-1) 64 1024 ag (hR1.mono (List.Subset.trans hG (bF (bF (dH))))) hA11 hl1).mono ?_
       rintro e' w42 ⟨v3,Z1,k3,rfl,hk3e,hZ3,hA43⟩
       refine ⟨_,rfl,fun a hF=>hK _ _ ?_⟩
       replace hA43:Hp w0 (Z1::[row b7 25 [.int .i64 ((b0.toNat:Nat):Int),.int .i64 0,ak [],.slice none 0 0]]::[row b1 25 [.int .i64 0,.int .i64 0,.string (⟨#[]⟩),.slice none 0 0]]::R) w42:=hA43
       obtain ⟨A3,c3,rfl,_,hR3⟩:=hZ3.rc (w0:=w0) (R:=[Z1]) (La ..)
       have hsl:((df r1 64 1024).val [] 0).length≤9223372036854775807:=by obtain ⟨_,_,e,h1,h2⟩:=hZ3.cap; omega
       refine vR hF<|vX O<|vV O (aJ (v:= .slice A3 (((df r1 64 1024).val [] 0).length) c3) rfl rfl rfl)<|vV O (aJ (v:= .int .i64 ((k3:Nat):Int)) O O O)<|vV O (aJ (v:= .int .i64 ((((df r1 64 1024).why 0):Nat):Int)) O O O)<|vV O (yf 3 O Ll O kW O) fun a hF=>?_
       refine aH O (fun K hK=>bz hF O O hA43 O O 1 O (by simp) rfl kW (fun w44 hA45=>hK _ _ ?_))
       replace hA45:Hp w0 (Z1::[row b7 25 [.int .i64 ((b0.toNat:Nat):Int),.int .i64 0,ak [],.slice A3 (((df r1 64 1024).val [] 0).length) c3]]::[row b1 25 [.int .i64 0,.int .i64 0,.string (⟨#[]⟩),.slice none 0 0]]::R) w44:=hA45
       refine vR hF<|vX O<|vX O fun a hF=>?_
       refine aK ?_
       exact hJ _ _ ⟨⟨((b0.toNat:Nat):Int),0,[],((df r1 64 1024).val [] 0)⟩,A3,c3⟩ Z1 k3 ((df r1 64 1024).pl 0 0) ((df r1 64 1024).why 0) (KN hk5) (Ig hb0 hR3 hsl) (hk3e) (pK) (BZ r1) (trivial) (hF.keep [6,7,2,5] rfl) hA45
      ·refine ay hF O (bK ag) ?_
       refine wS hF fun K30 hK30=>vV O (yf 0 O Ll O iD O)<|vV O (aW O hA11.q O 0 O O iE)<|vV O (aG O O O O O)<|vE hK30 fun a hF=>?_
       refine ay hF O (bK ag) ?_
       refine wS hF fun K31 hK31=>vV O (yf 0 O Ll O iD O)<|vV O (aW O hA11.q O 0 O O iE)<|vV O (aG O O O O O)<|vE hK31 fun a hF=>?_
       refine ay hF O (bK ag) ?_
       apply wp_skip
       exact hJ _ _ ⟨⟨((b0.toNat:Nat):Int),0,[],[]⟩,none,0⟩ [] 0 0 0 (KP (.inr ⟨hk1,hk4,hk2,hk3,hk5⟩)) (jw hb0 ae) (fun _=>rfl) (fun _=>rfl) (KW _) (trivial) (hF.keep [6,7,2,5] rfl) (Hp.nil hA11)
end Go.Proofs.YtepbmdlgdaedpaaGreatDoor
