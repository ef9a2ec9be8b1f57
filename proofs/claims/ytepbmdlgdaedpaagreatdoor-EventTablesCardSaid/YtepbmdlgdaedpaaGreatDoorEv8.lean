/- Texts that belong together, one behind the other. -/
import Derived.Test.YtepbmdlgdaedpaaGreatDoorProg
import Derived.Test.YtepbmdlgdaedpaaGreatDoorHs
import Derived.Test.YtepbmdlgdaedpaaGreatDoorEv7
namespace Go.Proofs.YtepbmdlgdaedpaaGreatDoor
open Go.RowKit Go.Dk
theorem Aa:(Tryz.prog.info? 5).map (·.size)=some 1:=af
theorem xg:bu Tryz.prog 5=true:=af
theorem xe:bu Tryz.prog 9=true:=af
theorem rF:isRow Tryz.prog 29 32=true:=af
theorem wM:(Tryz.prog.info? 5).map (·.size)=some 1:=af
theorem wL:(Tryz.prog.info? 9).map (·.size)=some 1:=af
theorem ry:(Tryz.prog.info? 29).map (·.size)=some 32:=af
set_option maxRecDepth 100000 in
set_option maxHeartbeats 1000000 in
theorem qZ (w0 w:World) (R:List Seg) (pa pb:Option Addr) (xs ys:List (List UInt8)) (ca cb:Nat) (hX:Rc w0 R pa (mZ xs)) (hY:Rc w0 R pb (mZ ys)) (h32xs:∀ d∈xs,d.length=32) (h32ys:∀ d∈ys,d.length=32) (hA:Hp w0 R w) (hn:xs.length≤9223372036854775807):Calls Tryz.prog 121 #[.slice pa xs.length ca,.slice pb ys.length cb] w fun e w'=>e= .returned (.bool (decide (xs=ys)))∧Hp w0 R w':=by
 refine aQ Tryz.func121 O Tryz.ntmps121 ai (fun a hF=>?_)
 refine wS hF fun K1 hK1=>vX O<|vE hK1<|wQ fun K2 hK2=>wT fun K3 hK3=>vX O<|vV O (aU O PS O O)<|vX O<|vV O (aU O PS O O)<|vV O (aB O O O O O)<|vE hK3 fun a hF=>?_
 by_cases hne:(xs.length:Int)≠(ys.length:Int)
 ·refine aF hF O (iL ag) ?_
  refine wS hF fun K4 hK4=>vX O<|vE hK4 fun a hF=>?_
  apply wp_ret
  simp only [Exit.then]
  refine aO hF Tryz.results121 O ?_
  rw [decide_eq_false (fun e=>by rw [e] at hne; exact hne rfl)]
  exact ⟨rfl,hA⟩
 ·refine au hF O (fG ag) ?_
  replace hne:xs.length=ys.length:=by omega
  apply wp_skip
  refine hK2 _ _ ?_
  apply wp_seq_k; intro K5 hK5
  refine wS hF fun K6 hK6=>vX O<|vE hK6<|wBk fun a hF=>?_
  refine bH (G:=Nat) (fun i a x=>i≤xs.length∧xs.take i=ys.take i∧Fr 26 [(5,.int .i64 (i:Int)),(0,.slice pa xs.length ca),(1,.slice pb ys.length cb)] a∧Hp w0 (R) x) (fun i=>xs.length-i) 0 (⟨PU _,rfl,hF.keep [5,0,1] rfl,hA⟩) ?_
  clear hF
  rintro i a w2 ⟨hi,hE,hF,hA1⟩
  apply wp_seq_k; intro K7 hK7
  refine wS hF fun K8 hK8=>vX O<|vX O<|vV O (aU O PS O O)<|vV O (aB O O O O O)<|vE hK8 fun a hF=>?_
  by_cases hlt:i<xs.length
  ·refine aF hF O (dB ag) ?_
   obtain ⟨q,hp⟩:∃ q,xs[i]? = some q:=⟨_,List.getElem?_eq_getElem hlt⟩
   obtain ⟨u,hu⟩:∃ u,ys[i]? = some u:=⟨_,List.getElem?_eq_getElem ag⟩
   have hT:xs.take (i+1)=xs.take i++[q]∧ys.take (i+1)=ys.take i++[u]:=⟨by rw [List.take_add_one,hp]; rfl,by rw [List.take_add_one,hu]; rfl⟩
   obtain ⟨hat0,hle0⟩:=Go.Dk.flat_at (z:=32) (Ws:=xs.map dc) (V:=dc q) (i:=i) (fun V hV=>by obtain ⟨d,hd,rfl⟩:=List.mem_map.1 hV; rw [aI]; exact h32xs d hd) (by rw [List.getElem?_map,hp]; rfl)
   obtain ⟨b1,o0,rfl,hc0⟩:=hX.ne (i:=i*32) (by show i*32<(xs.map dc).flatten.length; omega)
   obtain ⟨hat1,hle1⟩:=Go.Dk.flat_at (z:=32) (Ws:=ys.map dc) (V:=dc u) (i:=i) (fun V hV=>by obtain ⟨d,hd,rfl⟩:=List.mem_map.1 hV; rw [aI]; exact h32ys d hd) (by rw [List.getElem?_map,hu]; rfl)
   obtain ⟨b2,o1,rfl,hc1⟩:=hY.ne (i:=i*32) (by show i*32<(ys.map dc).flatten.length; omega)
   by_cases hqu:q=u
   ·apply wp_skip
    refine hK7 _ _ ?_
    apply wp_seq_k; intro K9 hK9
    apply wp_block
    apply wp_seq_k; intro K10 hK10
    refine aT 8 [8] [0,1,2,3,4,5,6,7,8] _ af af (Hq.drew hA1.q) ?_
    have hA3:=Hl.drew hA1
    refine pR hF<|pX O O<|pX O O<|pW O O (fun _=>bF O PS ry O O i rfl hlt rfl)<|pV O O (fun x hx=>gY O hx O hc0 (i*32) hle0 rfl hat0 rF)<|pX O O<|pX O O<|pW O O (fun _=>bF O PS ry O O i rfl ag rfl)<|pV O O (fun x hx=>gY O hx O hc1 (i*32) hle1 rfl hat1 rF) fun a hF=>?_
    refine dZ hF O O O O ae _ (Cj (X:=q) (Y:=u) (c:=false) rfl PV PW Aa af rfl rfl (h32xs q (List.mem_of_getElem? hp)) (h32ys u (List.mem_of_getElem? hu)) (G6 hqu)) (fun h=>absurd h ae) (fun a hF=>?_)
    refine bG ?_
    refine hK10 _ _ ?_
    refine eU hF O ?_
    apply wp_skip
    refine hK9 _ _ ?_
    refine wp_region_lit ?_
    refine vR hF<|vX O<|vV O (bn O O O (PX _ ag))<|vX O fun a hF=>?_
    refine aG ?_
    exact ⟨i+1,ag,ag,by rw [hT.1,hT.2,hE,hqu],hF.keep [5,0,1] rfl,hA3⟩
   ·apply wp_skip
    refine hK7 _ _ ?_
    apply wp_seq_k; intro K11 hK11
    apply wp_block
    apply wp_seq_k; intro K12 hK12
    refine aT 8 [8] [0,1,2,3,4,5,6,7,8] _ af af (Hq.drew hA1.q) ?_
    have hA4:=Hl.drew hA1
    refine pR hF<|pX O O<|pX O O<|pW O O (fun _=>bF O PS ry O O i rfl hlt rfl)<|pV O O (fun x hx=>gY O hx O hc0 (i*32) hle0 rfl hat0 rF)<|pX O O<|pX O O<|pW O O (fun _=>bF O PS ry O O i rfl ag rfl)<|pV O O (fun x hx=>gY O hx O hc1 (i*32) hle1 rfl hat1 rF) fun a hF=>?_
    refine dZ hF O O O O ae _ (Cj (X:=q) (Y:=u) (c:=true) rfl PV PW Aa af rfl rfl (h32xs q (List.mem_of_getElem? hp)) (h32ys u (List.mem_of_getElem? hu)) (NT hqu)) (fun h=>absurd h ae) (fun a hF=>?_)
    refine bG ?_
    refine hK12 _ _ ?_
    refine iQ hF O ?_
    refine wS hF fun K13 hK13=>vX O<|vE hK13 fun a hF=>?_
    apply wp_ret
    simp only [Exit.then,Exit.inBlock]
    refine aO hF Tryz.results121 O ?_
    rw [decide_eq_false (fun e=>by rw [e,hu] at hp; exact hqu (Option.some.inj hp).symm)]
    exact ⟨rfl,hA4⟩
  ·refine au hF O (dA ag) ?_
   obtain rfl:i=xs.length:=by omega
   rw [List.take_length,hne,List.take_length] at hE
   apply wp_exit
   refine hK5 _ _ ?_
   refine wS hF fun K14 hK14=>vX O<|vE hK14 fun a hF=>?_
   apply wp_ret
   refine aO hF Tryz.results121 O ?_
   rw [decide_eq_true hE]
   exact ⟨rfl,hA1⟩
theorem sK (l:List UInt8):bI .neq l l=false:=by simp [bI]
theorem Ar {l m:List UInt8} (h:¬ l=m):bI .neq l m=true:=by simp [bI,h]
set_option maxRecDepth 100000 in
set_option maxHeartbeats 1000000 in
theorem qY (w0 w:World) (R:List Seg) (pa pb:Option Addr) (xs ys:List (List UInt8)) (ca cb:Nat) (hX:Rc w0 R pa (xs.map ak)) (hY:Rc w0 R pb (ys.map ak)) (hA:Hp w0 R w) (hn:xs.length≤9223372036854775807):Calls Tryz.prog 92 #[.slice pa xs.length ca,.slice pb ys.length cb] w fun e w'=>e= .returned (.bool (decide (xs=ys)))∧Hp w0 R w':=by
 refine aQ Tryz.func92 O Tryz.ntmps92 ai (fun a hF=>?_)
 refine wS hF fun K1 hK1=>vX O<|vE hK1<|wQ fun K2 hK2=>wT fun K3 hK3=>vX O<|vV O (aU O PY O O)<|vX O<|vV O (aU O PY O O)<|vV O (aB O O O O O)<|vE hK3 fun a hF=>?_
 by_cases hne:(xs.length:Int)≠(ys.length:Int)
 ·refine aF hF O (iL ag) ?_
  refine wS hF fun K4 hK4=>vX O<|vE hK4 fun a hF=>?_
  apply wp_ret
  simp only [Exit.then]
  refine aO hF Tryz.results92 O ?_
  rw [decide_eq_false (fun e=>by rw [e] at hne; exact hne rfl)]
  exact ⟨rfl,hA⟩
 ·refine au hF O (fG ag) ?_
  replace hne:xs.length=ys.length:=by omega
  apply wp_skip
  refine hK2 _ _ ?_
  apply wp_seq_k; intro K5 hK5
  refine wS hF fun K6 hK6=>vX O<|vE hK6<|wBk fun a hF=>?_
  refine bH (G:=Nat) (fun i a x=>i≤xs.length∧xs.take i=ys.take i∧Fr 26 [(5,.int .i64 (i:Int)),(0,.slice pa xs.length ca),(1,.slice pb ys.length cb)] a∧Hp w0 (R) x) (fun i=>xs.length-i) 0 (⟨PU _,rfl,hF.keep [5,0,1] rfl,hA⟩) ?_
  clear hF
  rintro i a w2 ⟨hi,hE,hF,hA1⟩
  apply wp_seq_k; intro K7 hK7
  refine wS hF fun K8 hK8=>vX O<|vX O<|vV O (aU O PY O O)<|vV O (aB O O O O O)<|vE hK8 fun a hF=>?_
  by_cases hlt:i<xs.length
  ·refine aF hF O (dB ag) ?_
   obtain ⟨q,hp⟩:∃ q,xs[i]? = some q:=⟨_,List.getElem?_eq_getElem hlt⟩
   obtain ⟨u,hu⟩:∃ u,ys[i]? = some u:=⟨_,List.getElem?_eq_getElem ag⟩
   have hT:xs.take (i+1)=xs.take i++[q]∧ys.take (i+1)=ys.take i++[u]:=⟨by rw [List.take_add_one,hp]; rfl,by rw [List.take_add_one,hu]; rfl⟩
   obtain ⟨b1,o0,rfl,hc0⟩:=hX.ne (i:=i) (by rw [List.length_map]; omega)
   obtain ⟨b2,o1,rfl,hc1⟩:=hY.ne (i:=i) (by rw [List.length_map]; omega)
   by_cases hqu:q=u
   ·apply wp_skip
    refine hK7 _ _ ?_
    apply wp_seq_k; intro K9 hK9
    apply wp_block
    apply wp_seq_k; intro K10 hK10
    refine aT 8 [8] [0,1,2,3,4,5,6,7,8] _ af af (Hq.drew hA1.q) ?_
    have hA3:=Hl.drew hA1
    refine pR hF<|pX O O<|pX O O<|pW O O (fun _=>bF O PY wL O O i rfl hlt (ad2 _ _ _))<|pV O O (fun x hx=>dL (u:=ak q) rfl hx O hc0 i (by rw [List.length_map]; omega) rfl (by rw [List.getElem?_map,hp]; rfl) xe) fun a hF=>?_
    refine pR hF<|pX O O<|pX O O<|pW O O (fun _=>bF O PY wL O O i rfl ag (ad2 _ _ _))<|pV O O (fun x hx=>dL (u:=ak u) rfl hx O hc1 i (by rw [List.length_map]; omega) rfl (by rw [List.getElem?_map,hu]; rfl) xe) fun a hF=>?_
    refine dZ hF O O O O ae _ (fJ (c:=false) rfl rfl rfl rfl (by subst hqu; exact sK _)) (fun h=>absurd h ae) (fun a hF=>?_)
    refine bG ?_
    refine hK10 _ _ ?_
    refine eU hF O ?_
    apply wp_skip
    refine hK9 _ _ ?_
    refine wp_region_lit ?_
    refine vR hF<|vX O<|vV O (bn O O O (PX _ ag))<|vX O fun a hF=>?_
    refine aG ?_
    exact ⟨i+1,ag,ag,by rw [hT.1,hT.2,hE,hqu],hF.keep [5,0,1] rfl,hA3⟩
   ·apply wp_skip
    refine hK7 _ _ ?_
    apply wp_seq_k; intro K11 hK11
    apply wp_block
    apply wp_seq_k; intro K12 hK12
    refine aT 8 [8] [0,1,2,3,4,5,6,7,8] _ af af (Hq.drew hA1.q) ?_
    have hA4:=Hl.drew hA1
    refine pR hF<|pX O O<|pX O O<|pW O O (fun _=>bF O PY wL O O i rfl hlt (ad2 _ _ _))<|pV O O (fun x hx=>dL (u:=ak q) rfl hx O hc0 i (by rw [List.length_map]; omega) rfl (by rw [List.getElem?_map,hp]; rfl) xe) fun a hF=>?_
    refine pR hF<|pX O O<|pX O O<|pW O O (fun _=>bF O PY wL O O i rfl ag (ad2 _ _ _))<|pV O O (fun x hx=>dL (u:=ak u) rfl hx O hc1 i (by rw [List.length_map]; omega) rfl (by rw [List.getElem?_map,hu]; rfl) xe) fun a hF=>?_
    refine dZ hF O O O O ae _ (fJ (c:=true) rfl rfl rfl rfl (Ar hqu)) (fun h=>absurd h ae) (fun a hF=>?_)
    refine bG ?_
    refine hK12 _ _ ?_
    refine iQ hF O ?_
    refine wS hF fun K13 hK13=>vX O<|vE hK13 fun a hF=>?_
    apply wp_ret
    simp only [Exit.then,Exit.inBlock]
    refine aO hF Tryz.results92 O ?_
    rw [decide_eq_false (fun e=>by rw [e,hu] at hp; exact hqu (Option.some.inj hp).symm)]
    exact ⟨rfl,hA4⟩
  ·refine au hF O (dA ag) ?_
   obtain rfl:i=xs.length:=by omega
   rw [List.take_length,hne,List.take_length] at hE
   apply wp_exit
   refine hK5 _ _ ?_
   refine wS hF fun K14 hK14=>vX O<|vE hK14 fun a hF=>?_
   apply wp_ret
   refine aO hF Tryz.results92 O ?_
   rw [decide_eq_true hE]
   exact ⟨rfl,hA1⟩
set_option maxRecDepth 100000 in
set_option maxHeartbeats 1000000 in
theorem uP (w0 w:World) (R:List Seg) (pa pb:Option Addr) (xs ys:List (UInt8)) (ca cb:Nat) (hX:Rc w0 R pa (dc xs)) (hY:Rc w0 R pb (dc ys)) (hA:Hp w0 R w) (hn:xs.length≤9223372036854775807):Calls Tryz.prog 86 #[.slice pa xs.length ca,.slice pb ys.length cb] w fun e w'=>e= .returned (.bool (decide (xs=ys)))∧Hp w0 R w':=by
 refine aQ Tryz.func86 O Tryz.ntmps86 ai (fun a hF=>?_)
 refine wS hF fun K1 hK1=>vX O<|vE hK1<|wQ fun K2 hK2=>wT fun K3 hK3=>vX O<|vV O (aU O PZ O O)<|vX O<|vV O (aU O PZ O O)<|vV O (aB O O O O O)<|vE hK3 fun a hF=>?_
 by_cases hne:(xs.length:Int)≠(ys.length:Int)
 ·refine aF hF O (iL ag) ?_
  refine wS hF fun K4 hK4=>vX O<|vE hK4 fun a hF=>?_
  apply wp_ret
  simp only [Exit.then]
  refine aO hF Tryz.results86 O ?_
  rw [decide_eq_false (fun e=>by rw [e] at hne; exact hne rfl)]
  exact ⟨rfl,hA⟩
 ·refine au hF O (fG ag) ?_
  replace hne:xs.length=ys.length:=by omega
  apply wp_skip
  refine hK2 _ _ ?_
  apply wp_seq_k; intro K5 hK5
  refine wS hF fun K6 hK6=>vX O<|vE hK6<|wBk fun a hF=>?_
  refine bH (G:=Nat) (fun i a x=>i≤xs.length∧xs.take i=ys.take i∧Fr 26 [(5,.int .i64 (i:Int)),(0,.slice pa xs.length ca),(1,.slice pb ys.length cb)] a∧Hp w0 (R) x) (fun i=>xs.length-i) 0 (⟨PU _,rfl,hF.keep [5,0,1] rfl,hA⟩) ?_
  clear hF
  rintro i a w2 ⟨hi,hE,hF,hA1⟩
  apply wp_seq_k; intro K7 hK7
  refine wS hF fun K8 hK8=>vX O<|vX O<|vV O (aU O PZ O O)<|vV O (aB O O O O O)<|vE hK8 fun a hF=>?_
  by_cases hlt:i<xs.length
  ·refine aF hF O (dB ag) ?_
   obtain ⟨q,hp⟩:∃ q,xs[i]? = some q:=⟨_,List.getElem?_eq_getElem hlt⟩
   obtain ⟨u,hu⟩:∃ u,ys[i]? = some u:=⟨_,List.getElem?_eq_getElem ag⟩
   have hT:xs.take (i+1)=xs.take i++[q]∧ys.take (i+1)=ys.take i++[u]:=⟨by rw [List.take_add_one,hp]; rfl,by rw [List.take_add_one,hu]; rfl⟩
   obtain ⟨b1,o0,rfl,hc0⟩:=hX.ne (i:=i) (by rw [aI]; omega)
   obtain ⟨b2,o1,rfl,hc1⟩:=hY.ne (i:=i) (by rw [aI]; omega)
   by_cases hqu:q=u
   ·apply wp_skip
    refine hK7 _ _ ?_
    apply wp_seq_k; intro K9 hK9
    apply wp_block
    apply wp_seq_k; intro K10 hK10
    refine aT 8 [8] [0,1,2,3,4,5,6,7,8] _ af af (Hq.drew hA1.q) ?_
    have hA3:=Hl.drew hA1
    refine pR hF<|pX O O<|pX O O<|pW O O (fun _=>bF O PZ wM O O i rfl hlt (ad2 _ _ _))<|pV O O (fun x hx=>dL (u:= .int .u8 (q.toNat:Int)) O hx O hc0 i (by rw [aI]; omega) rfl (by unfold dc; rw [List.getElem?_map,hp]; rfl) xg) fun a hF=>?_
    refine pR hF<|pX O O<|pX O O<|pW O O (fun _=>bF O PZ wM O O i rfl ag (ad2 _ _ _))<|pV O O (fun x hx=>dL (u:= .int .u8 (u.toNat:Int)) O hx O hc1 i (by rw [aI]; omega) rfl (by unfold dc; rw [List.getElem?_map,hu]; rfl) xg) fun a hF=>?_
    refine dZ hF O O O O ae _ (aB O O O O (fG (by rw [hqu]))) (fun h=>absurd h ae) (fun a hF=>?_)
    refine bG ?_
    refine hK10 _ _ ?_
    refine eU hF O ?_
    apply wp_skip
    refine hK9 _ _ ?_
    refine wp_region_lit ?_
    refine vR hF<|vX O<|vV O (bn O O O (PX _ ag))<|vX O fun a hF=>?_
    refine aG ?_
    exact ⟨i+1,ag,ag,by rw [hT.1,hT.2,hE,hqu],hF.keep [5,0,1] rfl,hA3⟩
   ·apply wp_skip
    refine hK7 _ _ ?_
    apply wp_seq_k; intro K11 hK11
    apply wp_block
    apply wp_seq_k; intro K12 hK12
    refine aT 8 [8] [0,1,2,3,4,5,6,7,8] _ af af (Hq.drew hA1.q) ?_
    have hA4:=Hl.drew hA1
    refine pR hF<|pX O O<|pX O O<|pW O O (fun _=>bF O PZ wM O O i rfl hlt (ad2 _ _ _))<|pV O O (fun x hx=>dL (u:= .int .u8 (q.toNat:Int)) O hx O hc0 i (by rw [aI]; omega) rfl (by unfold dc; rw [List.getElem?_map,hp]; rfl) xg) fun a hF=>?_
    refine pR hF<|pX O O<|pX O O<|pW O O (fun _=>bF O PZ wM O O i rfl ag (ad2 _ _ _))<|pV O O (fun x hx=>dL (u:= .int .u8 (u.toNat:Int)) O hx O hc1 i (by rw [aI]; omega) rfl (by unfold dc; rw [List.getElem?_map,hu]; rfl) xg) fun a hF=>?_
    refine dZ hF O O O O ae _ (aB O O O O (iL (fun h=>hqu (UInt8.toNat_inj.1 (Int.ofNat.inj h))))) (fun h=>absurd h ae) (fun a hF=>?_)
    refine bG ?_
    refine hK12 _ _ ?_
    refine iQ hF O ?_
    refine wS hF fun K13 hK13=>vX O<|vE hK13 fun a hF=>?_
    apply wp_ret
    simp only [Exit.then,Exit.inBlock]
    refine aO hF Tryz.results86 O ?_
    rw [decide_eq_false (fun e=>by rw [e,hu] at hp; exact hqu (Option.some.inj hp).symm)]
    exact ⟨rfl,hA4⟩
  ·refine au hF O (dA ag) ?_
   obtain rfl:i=xs.length:=by omega
   rw [List.take_length,hne,List.take_length] at hE
   apply wp_exit
   refine hK5 _ _ ?_
   refine wS hF fun K14 hK14=>vX O<|vE hK14 fun a hF=>?_
   apply wp_ret
   refine aO hF Tryz.results86 O ?_
   rw [decide_eq_true hE]
   exact ⟨rfl,hA1⟩
end Go.Proofs.YtepbmdlgdaedpaaGreatDoor
namespace Go.Proofs.YtepbmdlgdaedpaaGreatDoor
open Go.RowKit Go.Dk
theorem Ls:aP Tryz.prog 86:=⟨_,Tryz.func86,af,af⟩
theorem Nl {a b:Val}:a=b↔a.k=b.k∧a.n=b.n∧a.t=b.t∧a.s=b.s:=by
  cases a; cases b
  simp
instance:DecidableEq Val:=fun a b=>decidable_of_iff _ (Nl (a:=a) (b:=b)).symm
set_option maxRecDepth 100000 in
set_option maxHeartbeats 4000000 in
theorem zC {w0:World} {R:List Seg} {A1 A2:Option Addr} {l1 l2:List UInt8} {c1 c2:Nat} (w:World) (hR1:Rd w0 R A1 l1) (hR2:Rd w0 R A2 l2) (hn:l1.length≤9223372036854775807) (hA:Hp w0 R w):Calls Tryz.prog 23 #[.slice A1 l1.length c1,.slice A2 l2.length c2] w fun e w'=>e= .returned (.bool (decide (l1=l2)))∧Hp w0 R w':=by
  refine aQ Tryz.func23 O Tryz.ntmps23 ai (fun a hF=>?_)
  refine wS hF fun K1 hK1=>vX O<|vE hK1<|wT fun K2 hK2=>vX O<|vX O fun a hF=>?_
  refine az O (fun K hK=>ay hF O ae Ls rfl rfl ?_)
  with_reducible refine (uP w0 _ R A1 A2 l1 l2 c1 c2 hR1 hR2 hA hn).mono ?_
  rintro e' w1 ⟨rfl,hA2⟩
  refine ⟨_,rfl,fun a hF=>hK _ _ ?_⟩
  replace hA2:Hp w0 (R) w1:=hA2
  refine vR hF<|vX O<|vE hK2 fun a hF=>?_
  apply wp_ret
  refine aO hF Tryz.results23 O ?_
  exact ⟨rfl,hA2⟩
theorem Ie {a b:Ev}:a=b↔a.op=b.op∧a.num=b.num∧a.clk=b.clk∧a.typ=b.typ∧a.cas=b.cas∧a.nam=b.nam∧a.v=b.v∧a.args=b.args∧a.src=b.src∧a.eff=b.eff:=by
  cases a; cases b
  simp
instance:DecidableEq Ev:=fun a b=>decidable_of_iff _ (Ie (a:=a) (b:=b)).symm
end Go.Proofs.YtepbmdlgdaedpaaGreatDoor
