/- Texts that belong together, one behind the other. -/
import Derived.Test.YtepbmdlgdaedpaaGreatDoorProg
import Derived.Test.YtepbmdlgdaedpaaGreatDoorHr
import Derived.Test.YtepbmdlgdaedpaaGreatDoorEv7
namespace Go.Proofs.YtepbmdlgdaedpaaGreatDoor
open Go.RowKit Go.Dk
theorem qF:bf Tryz.prog 5=true:=af
theorem qj:(Tryz.prog.info? 5).map (·.size)=some 1:=af
set_option maxRecDepth 100000 in
set_option maxHeartbeats 1000000 in
theorem oW (w0 w:World) (R:List Seg) (pa pb:Option Addr) (xs ys:List (UInt8)) (ca cb:Nat) (hX:Rc w0 R pa (dc xs)) (hY:Rc w0 R pb (dc ys)) (hA:Hp w0 R w) (hn:xs.length≤9223372036854775807):Calls Tryz.prog 86 #[.slice pa xs.length ca,.slice pb ys.length cb] w fun e w'=>e= .returned (.bool (decide (xs=ys)))∧Hp w0 R w':=by
 refine aP Tryz.func86 O Tryz.ntmps86 ai (fun a hF=>?_)
 refine wS hF fun K1 hK1=>vX O<|vE hK1<|wQ fun K2 hK2=>wT fun K3 hK3=>vX O<|vV O (aU O Hw O O)<|vX O<|vV O (aU O Hw O O)<|vV O (ax O O O O O)<|vE hK3 fun a hF=>?_
 by_cases hne:(xs.length:Int)≠(ys.length:Int)
 ·refine az hF O (gG ag) ?_
  refine wS hF fun K4 hK4=>vX O<|vE hK4 fun a hF=>?_
  apply wp_ret
  simp only [Exit.then]
  refine aK hF Tryz.results86 O ?_
  rw [decide_eq_false (fun e=>by rw [e] at hne; exact hne rfl)]
  exact ⟨rfl,hA⟩
 ·refine au hF O (dS ag) ?_
  replace hne:xs.length=ys.length:=by omega
  apply wp_skip
  refine hK2 _ _ ?_
  apply wp_seq_k; intro K5 hK5
  refine wS hF fun K6 hK6=>vX O<|vE hK6<|wBk fun a hF=>?_
  refine bM (G:=Nat) (fun i a x=>i≤xs.length∧xs.take i=ys.take i∧Fr 26 [(5,.int .i64 (i:Int)),(0,.slice pa xs.length ca),(1,.slice pb ys.length cb)] a∧Hp w0 (R) x) (fun i=>xs.length-i) 0 (⟨Hy _,rfl,hF.keep [5,0,1] rfl,hA⟩) ?_
  clear hF
  rintro i a w2 ⟨hi,hE,hF,hA1⟩
  apply wp_seq_k; intro K7 hK7
  refine wS hF fun K8 hK8=>vX O<|vX O<|vV O (aU O Hw O O)<|vV O (ax O O O O O)<|vE hK8 fun a hF=>?_
  by_cases hlt:i<xs.length
  ·refine az hF O (eG ag) ?_
   obtain ⟨q,hp⟩:∃ q,xs[i]? = some q:=⟨_,List.getElem?_eq_getElem hlt⟩
   obtain ⟨u,hu⟩:∃ u,ys[i]? = some u:=⟨_,List.getElem?_eq_getElem ag⟩
   have hT:xs.take (i+1)=xs.take i++[q]∧ys.take (i+1)=ys.take i++[u]:=⟨by rw [List.take_add_one,hp]; rfl,by rw [List.take_add_one,hu]; rfl⟩
   obtain ⟨b1,o0,rfl,hc0⟩:=hX.ne (i:=i) (by rw [aQ]; omega)
   obtain ⟨b2,o1,rfl,hc1⟩:=hY.ne (i:=i) (by rw [aQ]; omega)
   by_cases hqu:q=u
   ·apply wp_skip
    refine hK7 _ _ ?_
    apply wp_seq_k; intro K9 hK9
    apply wp_block
    apply wp_seq_k; intro K10 hK10
    refine bi 8 [8] [0,1,2,3,4,5,6,7,8] _ af af (Hq.drew hA1.q) ?_
    have hA3:=Hl.drew hA1
    refine pR hF<|pX O O<|pX O O<|pW O O (fun _=>bD O Hw qj O O i rfl hlt (ad2 _ _ _))<|pV O O (fun x hx=>dG (u:= .int .u8 (q.toNat:Int)) O hx O hc0 i (by rw [aQ]; omega) rfl (by unfold dc; rw [List.getElem?_map,hp]; rfl) qF) fun a hF=>?_
    refine pR hF<|pX O O<|pX O O<|pW O O (fun _=>bD O Hw qj O O i rfl ag (ad2 _ _ _))<|pV O O (fun x hx=>dG (u:= .int .u8 (u.toNat:Int)) O hx O hc1 i (by rw [aQ]; omega) rfl (by unfold dc; rw [List.getElem?_map,hu]; rfl) qF) fun a hF=>?_
    refine fF hF O O O O ae _ (ax O O O O (dS (by rw [hqu]))) (fun h=>absurd h ae) (fun a hF=>?_)
    refine df ?_
    refine hK10 _ _ ?_
    refine eP hF O ?_
    apply wp_skip
    refine hK9 _ _ ?_
    refine wp_region_lit ?_
    refine vR hF<|vX O<|vV O (bQ O O O (Hz _ ag))<|vX O fun a hF=>?_
    refine aN ?_
    exact ⟨i+1,ag,ag,by rw [hT.1,hT.2,hE,hqu],hF.keep [5,0,1] rfl,hA3⟩
   ·apply wp_skip
    refine hK7 _ _ ?_
    apply wp_seq_k; intro K11 hK11
    apply wp_block
    apply wp_seq_k; intro K12 hK12
    refine bi 8 [8] [0,1,2,3,4,5,6,7,8] _ af af (Hq.drew hA1.q) ?_
    have hA4:=Hl.drew hA1
    refine pR hF<|pX O O<|pX O O<|pW O O (fun _=>bD O Hw qj O O i rfl hlt (ad2 _ _ _))<|pV O O (fun x hx=>dG (u:= .int .u8 (q.toNat:Int)) O hx O hc0 i (by rw [aQ]; omega) rfl (by unfold dc; rw [List.getElem?_map,hp]; rfl) qF) fun a hF=>?_
    refine pR hF<|pX O O<|pX O O<|pW O O (fun _=>bD O Hw qj O O i rfl ag (ad2 _ _ _))<|pV O O (fun x hx=>dG (u:= .int .u8 (u.toNat:Int)) O hx O hc1 i (by rw [aQ]; omega) rfl (by unfold dc; rw [List.getElem?_map,hu]; rfl) qF) fun a hF=>?_
    refine fF hF O O O O ae _ (ax O O O O (gG (fun h=>hqu (UInt8.toNat_inj.1 (Int.ofNat.inj h))))) (fun h=>absurd h ae) (fun a hF=>?_)
    refine df ?_
    refine hK12 _ _ ?_
    refine iw hF O ?_
    refine wS hF fun K13 hK13=>vX O<|vE hK13 fun a hF=>?_
    apply wp_ret
    simp only [Exit.then,Exit.inBlock]
    refine aK hF Tryz.results86 O ?_
    rw [decide_eq_false (fun e=>by rw [e,hu] at hp; exact hqu (Option.some.inj hp).symm)]
    exact ⟨rfl,hA4⟩
  ·refine au hF O (dU ag) ?_
   obtain rfl:i=xs.length:=by omega
   rw [List.take_length,hne,List.take_length] at hE
   apply wp_exit
   refine hK5 _ _ ?_
   refine wS hF fun K14 hK14=>vX O<|vE hK14 fun a hF=>?_
   apply wp_ret
   refine aK hF Tryz.results86 O ?_
   rw [decide_eq_true hE]
   exact ⟨rfl,hA1⟩
end Go.Proofs.YtepbmdlgdaedpaaGreatDoor
namespace Go.Proofs.YtepbmdlgdaedpaaGreatDoor
open Go.RowKit Go.Dk
theorem D7:aO Tryz.prog 86:=⟨_,Tryz.func86,af,af⟩
theorem EL {a b:Val}:a=b↔a.k=b.k∧a.n=b.n∧a.t=b.t∧a.s=b.s:=by
  cases a; cases b
  simp
instance:DecidableEq Val:=fun a b=>decidable_of_iff _ (EL (a:=a) (b:=b)).symm
set_option maxRecDepth 100000 in
set_option maxHeartbeats 4000000 in
theorem jO {w0:World} {R:List Seg} {A1 A2:Option Addr} {l1 l2:List UInt8} {c1 c2:Nat} (w:World) (hR1:Rd w0 R A1 l1) (hR2:Rd w0 R A2 l2) (hn:l1.length≤9223372036854775807) (hA:Hp w0 R w):Calls Tryz.prog 23 #[.slice A1 l1.length c1,.slice A2 l2.length c2] w fun e w'=>e= .returned (.bool (decide (l1=l2)))∧Hp w0 R w':=by
  refine aP Tryz.func23 O Tryz.ntmps23 ai (fun a hF=>?_)
  refine wS hF fun K1 hK1=>vX O<|vE hK1<|wT fun K2 hK2=>vX O<|vX O fun a hF=>?_
  refine aB O (fun K hK=>ay hF O ae D7 rfl rfl ?_)
  with_reducible refine (oW w0 _ R A1 A2 l1 l2 c1 c2 hR1 hR2 hA hn).mono ?_
  rintro e' w1 ⟨rfl,hA2⟩
  refine ⟨_,rfl,fun a hF=>hK _ _ ?_⟩
  replace hA2:Hp w0 (R) w1:=hA2
  refine vR hF<|vX O<|vE hK2 fun a hF=>?_
  apply wp_ret
  refine aK hF Tryz.results23 O ?_
  exact ⟨rfl,hA2⟩
theorem Ap {a b:Ev}:a=b↔a.op=b.op∧a.num=b.num∧a.clk=b.clk∧a.typ=b.typ∧a.cas=b.cas∧a.nam=b.nam∧a.v=b.v∧a.args=b.args∧a.src=b.src∧a.eff=b.eff:=by
  cases a; cases b
  simp
instance:DecidableEq Ev:=fun a b=>decidable_of_iff _ (Ap (a:=a) (b:=b)).symm
end Go.Proofs.YtepbmdlgdaedpaaGreatDoor
