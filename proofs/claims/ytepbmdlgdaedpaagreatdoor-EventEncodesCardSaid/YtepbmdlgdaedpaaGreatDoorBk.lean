/- Small functions of the statements' book. -/
import Derived.Test.YtepbmdlgdaedpaaGreatDoorProg
import Derived.Test.YtepbmdlgdaedpaaGreatDoorHr
/- Small functions of the statements' book. -/
namespace Go.Proofs.YtepbmdlgdaedpaaGreatDoor
open Go.RowKit Go.Dk
theorem ru:bn Tryz.prog 5=true:=af
theorem rq:bn Tryz.prog 9=true:=af
theorem qR:(Tryz.prog.info? 5).map (·.size)=some 1:=af
theorem qQ:(Tryz.prog.info? 9).map (·.size)=some 1:=af
theorem nO (l:List UInt8):aY .neq l l=false:=by simp [aY]
theorem vZ {l m:List UInt8} (h:¬ l=m):aY .neq l m=true:=by simp [aY,h]
set_option maxRecDepth 100000 in
set_option maxHeartbeats 1000000 in
theorem jR (w0 w:World) (R:List Seg) (pa pb:Option Addr) (xs ys:List (List UInt8)) (ca cb:Nat) (hX:Rc w0 R pa (xs.map ak)) (hY:Rc w0 R pb (ys.map ak)) (hA:Hp w0 R w) (hn:xs.length≤9223372036854775807):Calls Tryz.prog 92 #[.slice pa xs.length ca,.slice pb ys.length cb] w fun e w'=>e= .returned (.bool (decide (xs=ys)))∧Hp w0 R w':=by
 refine aN Tryz.func92 O Tryz.ntmps92 ai (fun a hF=>?_)
 refine wS hF fun K1 hK1=>vX O<|vE hK1<|wQ fun K2 hK2=>wT fun K3 hK3=>vX O<|vV O (aT O JD O O)<|vX O<|vV O (aT O JD O O)<|vV O (aG O O O O O)<|vE hK3 fun a hF=>?_
 by_cases hne:(xs.length:Int)≠(ys.length:Int)
 ·refine aF hF O (gp ag) ?_
  refine wS hF fun K4 hK4=>vX O<|vE hK4 fun a hF=>?_
  apply wp_ret
  simp only [Exit.then]
  refine aK hF Tryz.results92 O ?_
  rw [decide_eq_false (fun e=>by rw [e] at hne; exact hne rfl)]
  exact ⟨rfl,hA⟩
 ·refine az hF O (dZ ag) ?_
  replace hne:xs.length=ys.length:=by omega
  apply wp_skip
  refine hK2 _ _ ?_
  apply wp_seq_k; intro K5 hK5
  refine wS hF fun K6 hK6=>vX O<|vE hK6<|wBk fun a hF=>?_
  refine bz (G:=Nat) (fun i a x=>i≤xs.length∧xs.take i=ys.take i∧Fr 26 [(5,.int .i64 (i:Int)),(0,.slice pa xs.length ca),(1,.slice pb ys.length cb)] a∧Hp w0 (R) x) (fun i=>xs.length-i) 0 (⟨JE _,rfl,hF.keep [5,0,1] rfl,hA⟩) ?_
  clear hF
  rintro i a w2 ⟨hi,hE,hF,hA1⟩
  apply wp_seq_k; intro K7 hK7
  refine wS hF fun K8 hK8=>vX O<|vX O<|vV O (aT O JD O O)<|vV O (aG O O O O O)<|vE hK8 fun a hF=>?_
  by_cases hlt:i<xs.length
  ·refine aF hF O (dB ag) ?_
   obtain ⟨q,hp⟩:∃ q,xs[i]? = some q:=⟨_,List.getElem?_eq_getElem hlt⟩
   obtain ⟨u,hu⟩:∃ u,ys[i]? = some u:=⟨_,List.getElem?_eq_getElem ag⟩
   have hT:xs.take (i+1)=xs.take i++[q]∧ys.take (i+1)=ys.take i++[u]:=⟨by rw [List.take_add_one,hp]; rfl,by rw [List.take_add_one,hu]; rfl⟩
   obtain ⟨b1,o0,rfl,hc0⟩:=hX.ne (i:=i) (by rw [List.length_map]; omega)
   obtain ⟨b2,o1,rfl,hc1⟩:=hY.ne (i:=i) (by rw [List.length_map]; omega)
   by_cases hqu:q=u
   ·apply wp_skip
    refine hK7 _ _ ?_
    apply wp_seq_k; intro K9 hK9
    apply wp_block
    apply wp_seq_k; intro K10 hK10
    refine bi 8 [8] [0,1,2,3,4,5,6,7,8] _ af af (Hq.drew hA1.q) ?_
    have hA3:=Hl.drew hA1
    refine pR hF<|pX O O<|pX O O<|pW O O (fun _=>bI O JD qQ O O i rfl hlt (ad2 _ _ _))<|pV O O (fun x hx=>dN (u:=ak q) rfl hx O hc0 i (by rw [List.length_map]; omega) rfl (by rw [List.getElem?_map,hp]; rfl) rq) fun a hF=>?_
    refine pR hF<|pX O O<|pX O O<|pW O O (fun _=>bI O JD qQ O O i rfl ag (ad2 _ _ _))<|pV O O (fun x hx=>dN (u:=ak u) rfl hx O hc1 i (by rw [List.length_map]; omega) rfl (by rw [List.getElem?_map,hu]; rfl) rq) fun a hF=>?_
    refine fB hF O O O O ae _ (dL (c:=false) rfl rfl rfl rfl (by subst hqu; exact nO _)) (fun h=>absurd h ae) (fun a hF=>?_)
    refine bY ?_
    refine hK10 _ _ ?_
    refine eG hF O ?_
    apply wp_skip
    refine hK9 _ _ ?_
    refine wp_region_lit ?_
    refine vR hF<|vX O<|vV O (bK O O O (JF _ ag))<|vX O fun a hF=>?_
    refine aJ ?_
    exact ⟨i+1,ag,ag,by rw [hT.1,hT.2,hE,hqu],hF.keep [5,0,1] rfl,hA3⟩
   ·apply wp_skip
    refine hK7 _ _ ?_
    apply wp_seq_k; intro K11 hK11
    apply wp_block
    apply wp_seq_k; intro K12 hK12
    refine bi 8 [8] [0,1,2,3,4,5,6,7,8] _ af af (Hq.drew hA1.q) ?_
    have hA4:=Hl.drew hA1
    refine pR hF<|pX O O<|pX O O<|pW O O (fun _=>bI O JD qQ O O i rfl hlt (ad2 _ _ _))<|pV O O (fun x hx=>dN (u:=ak q) rfl hx O hc0 i (by rw [List.length_map]; omega) rfl (by rw [List.getElem?_map,hp]; rfl) rq) fun a hF=>?_
    refine pR hF<|pX O O<|pX O O<|pW O O (fun _=>bI O JD qQ O O i rfl ag (ad2 _ _ _))<|pV O O (fun x hx=>dN (u:=ak u) rfl hx O hc1 i (by rw [List.length_map]; omega) rfl (by rw [List.getElem?_map,hu]; rfl) rq) fun a hF=>?_
    refine fB hF O O O O ae _ (dL (c:=true) rfl rfl rfl rfl (vZ hqu)) (fun h=>absurd h ae) (fun a hF=>?_)
    refine bY ?_
    refine hK12 _ _ ?_
    refine gZ hF O ?_
    refine wS hF fun K13 hK13=>vX O<|vE hK13 fun a hF=>?_
    apply wp_ret
    simp only [Exit.then,Exit.inBlock]
    refine aK hF Tryz.results92 O ?_
    rw [decide_eq_false (fun e=>by rw [e,hu] at hp; exact hqu (Option.some.inj hp).symm)]
    exact ⟨rfl,hA4⟩
  ·refine az hF O (dw ag) ?_
   obtain rfl:i=xs.length:=by omega
   rw [List.take_length,hne,List.take_length] at hE
   apply wp_exit
   refine hK5 _ _ ?_
   refine wS hF fun K14 hK14=>vX O<|vE hK14 fun a hF=>?_
   apply wp_ret
   refine aK hF Tryz.results92 O ?_
   rw [decide_eq_true hE]
   exact ⟨rfl,hA1⟩
set_option maxRecDepth 100000 in
set_option maxHeartbeats 1000000 in
theorem kP (w0 w:World) (R:List Seg) (pa pb:Option Addr) (xs ys:List (UInt8)) (ca cb:Nat) (hX:Rc w0 R pa (dc xs)) (hY:Rc w0 R pb (dc ys)) (hA:Hp w0 R w) (hn:xs.length≤9223372036854775807):Calls Tryz.prog 86 #[.slice pa xs.length ca,.slice pb ys.length cb] w fun e w'=>e= .returned (.bool (decide (xs=ys)))∧Hp w0 R w':=by
 refine aN Tryz.func86 O Tryz.ntmps86 ai (fun a hF=>?_)
 refine wS hF fun K1 hK1=>vX O<|vE hK1<|wQ fun K2 hK2=>wT fun K3 hK3=>vX O<|vV O (aT O JG O O)<|vX O<|vV O (aT O JG O O)<|vV O (aG O O O O O)<|vE hK3 fun a hF=>?_
 by_cases hne:(xs.length:Int)≠(ys.length:Int)
 ·refine aF hF O (gp ag) ?_
  refine wS hF fun K4 hK4=>vX O<|vE hK4 fun a hF=>?_
  apply wp_ret
  simp only [Exit.then]
  refine aK hF Tryz.results86 O ?_
  rw [decide_eq_false (fun e=>by rw [e] at hne; exact hne rfl)]
  exact ⟨rfl,hA⟩
 ·refine az hF O (dZ ag) ?_
  replace hne:xs.length=ys.length:=by omega
  apply wp_skip
  refine hK2 _ _ ?_
  apply wp_seq_k; intro K5 hK5
  refine wS hF fun K6 hK6=>vX O<|vE hK6<|wBk fun a hF=>?_
  refine bz (G:=Nat) (fun i a x=>i≤xs.length∧xs.take i=ys.take i∧Fr 26 [(5,.int .i64 (i:Int)),(0,.slice pa xs.length ca),(1,.slice pb ys.length cb)] a∧Hp w0 (R) x) (fun i=>xs.length-i) 0 (⟨JE _,rfl,hF.keep [5,0,1] rfl,hA⟩) ?_
  clear hF
  rintro i a w2 ⟨hi,hE,hF,hA1⟩
  apply wp_seq_k; intro K7 hK7
  refine wS hF fun K8 hK8=>vX O<|vX O<|vV O (aT O JG O O)<|vV O (aG O O O O O)<|vE hK8 fun a hF=>?_
  by_cases hlt:i<xs.length
  ·refine aF hF O (dB ag) ?_
   obtain ⟨q,hp⟩:∃ q,xs[i]? = some q:=⟨_,List.getElem?_eq_getElem hlt⟩
   obtain ⟨u,hu⟩:∃ u,ys[i]? = some u:=⟨_,List.getElem?_eq_getElem ag⟩
   have hT:xs.take (i+1)=xs.take i++[q]∧ys.take (i+1)=ys.take i++[u]:=⟨by rw [List.take_add_one,hp]; rfl,by rw [List.take_add_one,hu]; rfl⟩
   obtain ⟨b1,o0,rfl,hc0⟩:=hX.ne (i:=i) (by rw [aS]; omega)
   obtain ⟨b2,o1,rfl,hc1⟩:=hY.ne (i:=i) (by rw [aS]; omega)
   by_cases hqu:q=u
   ·apply wp_skip
    refine hK7 _ _ ?_
    apply wp_seq_k; intro K9 hK9
    apply wp_block
    apply wp_seq_k; intro K10 hK10
    refine bi 8 [8] [0,1,2,3,4,5,6,7,8] _ af af (Hq.drew hA1.q) ?_
    have hA3:=Hl.drew hA1
    refine pR hF<|pX O O<|pX O O<|pW O O (fun _=>bI O JG qR O O i rfl hlt (ad2 _ _ _))<|pV O O (fun x hx=>dN (u:= .int .u8 (q.toNat:Int)) O hx O hc0 i (by rw [aS]; omega) rfl (by unfold dc; rw [List.getElem?_map,hp]; rfl) ru) fun a hF=>?_
    refine pR hF<|pX O O<|pX O O<|pW O O (fun _=>bI O JG qR O O i rfl ag (ad2 _ _ _))<|pV O O (fun x hx=>dN (u:= .int .u8 (u.toNat:Int)) O hx O hc1 i (by rw [aS]; omega) rfl (by unfold dc; rw [List.getElem?_map,hu]; rfl) ru) fun a hF=>?_
    refine fB hF O O O O ae _ (aG O O O O (dZ (by rw [hqu]))) (fun h=>absurd h ae) (fun a hF=>?_)
    refine bY ?_
    refine hK10 _ _ ?_
    refine eG hF O ?_
    apply wp_skip
    refine hK9 _ _ ?_
    refine wp_region_lit ?_
    refine vR hF<|vX O<|vV O (bK O O O (JF _ ag))<|vX O fun a hF=>?_
    refine aJ ?_
    exact ⟨i+1,ag,ag,by rw [hT.1,hT.2,hE,hqu],hF.keep [5,0,1] rfl,hA3⟩
   ·apply wp_skip
    refine hK7 _ _ ?_
    apply wp_seq_k; intro K11 hK11
    apply wp_block
    apply wp_seq_k; intro K12 hK12
    refine bi 8 [8] [0,1,2,3,4,5,6,7,8] _ af af (Hq.drew hA1.q) ?_
    have hA4:=Hl.drew hA1
    refine pR hF<|pX O O<|pX O O<|pW O O (fun _=>bI O JG qR O O i rfl hlt (ad2 _ _ _))<|pV O O (fun x hx=>dN (u:= .int .u8 (q.toNat:Int)) O hx O hc0 i (by rw [aS]; omega) rfl (by unfold dc; rw [List.getElem?_map,hp]; rfl) ru) fun a hF=>?_
    refine pR hF<|pX O O<|pX O O<|pW O O (fun _=>bI O JG qR O O i rfl ag (ad2 _ _ _))<|pV O O (fun x hx=>dN (u:= .int .u8 (u.toNat:Int)) O hx O hc1 i (by rw [aS]; omega) rfl (by unfold dc; rw [List.getElem?_map,hu]; rfl) ru) fun a hF=>?_
    refine fB hF O O O O ae _ (aG O O O O (gp (fun h=>hqu (UInt8.toNat_inj.1 (Int.ofNat.inj h))))) (fun h=>absurd h ae) (fun a hF=>?_)
    refine bY ?_
    refine hK12 _ _ ?_
    refine gZ hF O ?_
    refine wS hF fun K13 hK13=>vX O<|vE hK13 fun a hF=>?_
    apply wp_ret
    simp only [Exit.then,Exit.inBlock]
    refine aK hF Tryz.results86 O ?_
    rw [decide_eq_false (fun e=>by rw [e,hu] at hp; exact hqu (Option.some.inj hp).symm)]
    exact ⟨rfl,hA4⟩
  ·refine az hF O (dw ag) ?_
   obtain rfl:i=xs.length:=by omega
   rw [List.take_length,hne,List.take_length] at hE
   apply wp_exit
   refine hK5 _ _ ?_
   refine wS hF fun K14 hK14=>vX O<|vE hK14 fun a hF=>?_
   apply wp_ret
   refine aK hF Tryz.results86 O ?_
   rw [decide_eq_true hE]
   exact ⟨rfl,hA1⟩
end Go.Proofs.YtepbmdlgdaedpaaGreatDoor
