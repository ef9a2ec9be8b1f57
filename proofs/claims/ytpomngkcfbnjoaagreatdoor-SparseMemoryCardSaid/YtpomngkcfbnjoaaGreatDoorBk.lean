/- Texts that belong together, one behind the other. -/
import Derived.Test.YtpomngkcfbnjoaaGreatDoorOctetW
import Derived.Test.YtpomngkcfbnjoaaGreatDoorHs
import Derived.Test.YtpomngkcfbnjoaaGreatDoorProg
namespace Go.Proofs.YtpomngkcfbnjoaaGreatDoor
open Go.RowKit Go.Dk
def WrS (g:Nat) (l:List UInt8) (Y:Seg):Prop:=∃ v X,Buf 5 1 X v l.length (dc l)∧Y=row g 153 [v]::X
theorem WrS.same {g:Nat} {l l':List UInt8} {Y:Seg} (h:WrS g l Y) (e:l=l'):WrS g l' Y:=e ▸ h
theorem PH:aG Tryz.prog 97:=⟨_,Tryz.func97,af,af⟩
set_option maxRecDepth 100000 in
set_option maxHeartbeats 1000000 in
theorem RV (w0 w:World) (R:List Seg) (hA:Hp w0 R w):Calls Tryz.prog 84 #[] w fun e w'=>∃ g Y,e= .returned (.pointer (some ⟨g,0,none⟩))∧WrS g [] Y∧Hp w0 (Y::R) w':=by
 refine aJ Tryz.func84 O Tryz.ntmps84 ai (fun a hF=>?_)
 refine wS hF fun K1 hK1=>vX O<|vE hK1<|wT fun K2 hK2=>vV O (nM O LK) fun a hF=>?_
 refine au O (fun K hK=>bC (cs:=[.slice none 0 0]) hF O ae rfl hA O (fun b1 w2 a hb1 hF hA3=>hK _ _ ?_))
 refine vR hF<|vX O<|vE hK2 fun a hF=>?_
 apply wp_ret
 refine aO hF Tryz.results84 O ?_
 exact ⟨b1,_,rfl,⟨_,[],Buf.nil _ _,rfl⟩,hA3⟩
set_option maxRecDepth 100000 in
set_option maxHeartbeats 1000000 in
theorem AA (w0 w:World) (R:List Seg) (wb:Nat) (l:List UInt8) (Y:Seg) (n:Nat) (hn:n<2 ^ 8) (z:Int) (hz:z=n) (hY:WrS wb l Y) (hA:Hp w0 (Y::R) w) (hl:l.length<140737488354000) :
  Calls Tryz.prog 90 #[.pointer (some ⟨wb,0,none⟩),.int .u8 z] w fun e w'=>∃ Y',e= .returned (.tuple #[])∧WrS wb (l++be 1 n) Y'∧Hp w0 (Y'::R) w':=by
 subst hz
 obtain ⟨v,X,hO,rfl⟩:=hY
 replace hA:Hp w0 ([row wb 153 [v]]::X::R) w:=Hp.part (X:=[row wb 153 [v]]) hA
 refine aJ Tryz.func90 O Tryz.ntmps90 ai (fun a hF=>?_)
 apply wp_seq_k; intro K1 hK1
 refine wS hF fun K2 hK2=>vX O<|vV O (iG O af rfl rfl)<|vE hK2<|vF1 O<|wKp hK1 fun a hF=>?_
 refine wp_seq_k fun K3 hK3=>wp_region_lit ?_
 refine au O (fun K hK=>ax hF O ae PH rfl rfl ?_)
 with_reducible refine (xw w).mono ?_
 rintro e' w3 ⟨rfl,rfl⟩
 refine ⟨_,rfl,fun a hF=>hK _ _ ?_⟩
 refine vR hF<|vV O (dm O O O (TB _ ag))<|vX O<|vE hK3<|wBk fun a hF=>?_
 refine bQ (G:=Nat) (fun j a x=>∃ (v1:Value) (X1:Seg),j≤1∧Buf 5 1 X1 v1 (l++(be 1 n).take j).length (dc (l++(be 1 n).take j))∧Fr 28 [(4,.int .i64 (1-1-(j:Int))),(0,.pointer (some ⟨wb,0,none⟩)),(1,.int .u8 n)] a∧Hp w0 ([row wb 153 [v1]]::X1::R) x) (fun j=>1-j) 0 (⟨v,X,Tv _,by rw [List.take_zero,List.append_nil]; exact hO,hF.keep [4,0,1] rfl,hA⟩) ?_
 clear hF
 rintro j a w5 ⟨v1,X1,hj,hO,hF,hA4⟩
 apply wp_seq_k; intro K4 hK4
 refine wS hF fun K5 hK5=>vX O<|vV O (aH O O O O O)<|vE hK5 fun a hF=>?_
 by_cases hlt:j<1
 ·refine aZ hF O (xN ag) ?_
  apply wp_skip
  refine hK4 _ _ ?_
  apply wp_seq_k; intro K6 hK6
  apply wp_block
  refine ak 13 [11,12,13,14,15] [0,1,2,3,4,5,6,7,8,9,10,11,12,13,14,15] (fun x=>Hq w0 ([row wb 153 [v1]]::R) x) af af (Hq.drew (Hp.qp [[row wb 153 [v1]],X1] R [0] hA4)) ?_
  have hA6:=Hl.drew hA4
  refine pR hF<|pX O O<|pX O O<|pX O O<|pW O O (fun _=>yf 0 O Ud O uV O)<|pV O O (fun x hx=>aX O hx O 0 O O Gt)<|pX O O<|pW O O (fun _=>fP O TA Ue O (show IntKind.u64.wrap (n:Int)=(n:Int) by rw [IntKind.wrap_u64]; omega)) fun a hF=>?_
  refine pR hF<|pX O O<|pW O O (fun _=>uw O O O (show IntKind.i64.wrap (8*(1-1-(j:Int)))=((8*(1-1-j):Nat):Int) by rw [TB _ ag]; omega)) fun a hF=>?_
  refine pR hF<|pW O O (fun _=>mP O O O ag rfl)<|pW O O (fun _=>fP O Ue TA O (Ak n (1-1-j) (8*(1-1-j)) O ag)) fun a hF=>?_
  refine bM O O O (fun K hK=>ML hF O ae rfl hA6 (UInt8.ofNat (n/256 ^ (1-1-j))) O CS (fun b7 w8 a hb7 hF hA9=>hK _ _ (fun _=>?_) ?_))
  ·exact Hp.qp [[row b7 5 (dc [(UInt8.ofNat (n/256 ^ (1-1-j)))])],[row wb 153 [v1]],X1] R [1] hA9
  replace hA9:Hp w0 ([row b7 5 (dc [(UInt8.ofNat (n/256 ^ (1-1-j)))])]::[row wb 153 [v1]]::X1::R) w8:=hA9
  refine bM O O O (fun K hK=>dI hF O ae rfl hA9 2 O hO TC nR rfl rfl (Bts.src (l:=[(UInt8.ofNat (n/256 ^ (1-1-j)))]) TC (Rc.bts (w0:=w0) (R:=[row b7 5 (dc [(UInt8.ofNat (n/256 ^ (1-1-j)))])]::[row wb 153 [v1]]::X1::R) (Rc.ofRow (i:=0) rfl rfl) hA9.q)) (by simp only [List.length_append,List.length_take,List.length_cons,List.length_nil,be,List.length_map,List.length_range] at *; omega) ae (fun v2 X2 w10 a hO2 hF hA11=>hK _ _ (fun _=>?_) ?_))
  ·exact Hp.qp [[row b7 5 (dc [(UInt8.ofNat (n/256 ^ (1-1-j)))])],[row wb 153 [v1]],X2] R [1] hA11
  replace hA11:Hp w0 ([row b7 5 (dc [(UInt8.ofNat (n/256 ^ (1-1-j)))])]::[row wb 153 [v1]]::X2::R) w10:=hA11
  refine bY hF O O O O ae _ (bP O O) (fun h=>absurd h ae) (fun a hF=>?_)
  refine bY hF O O O O ae _ (yf 0 O Ud O uV O) (fun h=>absurd h ae) (fun a hF=>?_)
  refine bM O O O (fun K hK=>aW hF O O hA11 O O 1 O (by simp) hO2.one uV (fun w12 hA13=>hK _ _ (fun h=>absurd h ae) ?_))
  replace hA13:Hp w0 ([row b7 5 (dc [(UInt8.ofNat (n/256 ^ (1-1-j)))])]::[row wb 153 [v2]]::X2::R) w12:=hA13
  refine aB ?_
  refine hK6 _ _ ?_
  refine wp_region_lit ?_
  refine vR hF<|vX O<|vV O (dm O O O (show IntKind.i64.wrap (1-1-(j:Int)-1)=1-1-((j+1:Nat):Int) by rw [TB _ ag]; omega)) fun a hF=>?_
  refine vR hF<|vX O fun a hF=>?_
  refine az ?_
  have e:l++(be 1 n).take j++[(UInt8.ofNat (n/256 ^ (1-1-j)))]=l++(be 1 n).take (j+1):=by rw [List.append_assoc,LP 1 n j hlt]
  have e2:(l++(be 1 n).take j).length+[(UInt8.ofNat (n/256 ^ (1-1-j)))].length=(l++(be 1 n).take (j+1)).length:=by rw [← e]; simp only [List.length_append]
  rw [← eG,e,e2] at hO2
  have hA14:Hp w0 ([row wb 153 [v2]]::X2::R) w12:=hpS 3 [1,2] [0] hA13 rfl
  exact ⟨j+1,ag,v2,X2,ag,hO2,hF.keep [4,0,1] rfl,hA14⟩
 ·refine aS hF O (zx ag) ?_
  obtain rfl:j=1:=by omega
  rw [ug] at hO
  apply wp_exit
  simp only [Exit.then,Exit.inBlock,↓reduceIte]
  refine jJ hF Tryz.results90 ?_
  exact ⟨_,rfl,⟨v1,X1,hO,rfl⟩,Hp.join hA4⟩
set_option maxRecDepth 100000 in
set_option maxHeartbeats 1000000 in
theorem RX (w0 w:World) (R:List Seg) (wb:Nat) (l:List UInt8) (Y:Seg) (hY:WrS wb l Y) (hA:Hp w0 (Y::R) w) (hl:l.length<140737488354000):Calls Tryz.prog 87 #[.pointer (some ⟨wb,0,none⟩)] w fun e w'=>∃ v' Z Y',e= .returned v'∧Buf 5 1 Z v' l.length (dc l)∧WrS wb l Y'∧Hp w0 (Z::Y'::R) w':=by
 obtain ⟨v,X,hO,rfl⟩:=hY
 replace hA:Hp w0 ([row wb 153 [v]]::X::R) w:=Hp.part (X:=[row wb 153 [v]]) hA
 have hO0:=hO
 obtain ⟨_,A,c,rfl,hc,hB⟩:=hO.rd (w0:=w0) (R:=[X]) (TF ..)
 refine aJ Tryz.func87 O Tryz.ntmps87 ai (fun a hF=>?_)
 refine wS hF fun K1 hK1=>vX O<|vE hK1<|wT fun K2 hK2=>vX O<|vX O<|vV O (yf 0 O Ud O uV O)<|vV O (aX O hA.q O 0 O O Gt) fun a hF=>?_
 have hA1:Hp w0 (([]:Seg)::[row wb 153 [.slice A l.length c]]::X::R) w:=Hp.nil hA
 refine au O (fun K hK=>dI hF O ae rfl hA1 0 O (Buf.nil 5 1) TC nR rfl rfl (Bts.src TC (hB.bts (Hq.sub hA1.q (by simp)))) ag ae (fun v2 X2 w2 a hO2 hF hA3=>hK _ _ ?_))
 replace hA3:Hp w0 (X2::[row wb 153 [.slice A l.length c]]::X::R) w2:=hA3
 rw [List.nil_append,Nat.zero_add] at hO2
 refine vR hF<|vX O<|vE hK2 fun a hF=>?_
 apply wp_ret
 refine aO hF Tryz.results87 O ?_
 exact ⟨_,X2,_,rfl,hO2,⟨_,X,hO0,rfl⟩,Hp.ord [row wb 153 [.slice A l.length c]::X,X2] R [1,0] (Hp.join (Hp.ord [X2,[row wb 153 [.slice A l.length c]],X] R [1,2,0] hA3 O)) O⟩
def mF (ps:List Piece):List UInt8:=ps.flatMap (·.2.2)
theorem IC:mF []=[]:=rfl
theorem xq {ps:List Piece} {i:Nat} {A:Option Addr} {c:Nat} {l:List UInt8} (h:ps[i]? = some (A,c,l)):mF (ps.take (i+1))=mF (ps.take i)++l:=by
 unfold mF
 rw [List.take_add_one,h]
 simp
theorem LJ {ps:List Piece} {i:Nat} {A:Option Addr} {c:Nat} {l:List UInt8} (h:ps[i]? = some (A,c,l)):(mF (ps.take i)).length+l.length≤(mF ps).length:=by
 have h1:=congrArg List.length (xq h)
 have h2:mF ps=mF (ps.take (i+1))++mF (ps.drop (i+1)):=by
  unfold mF; rw [← List.flatMap_append,List.take_append_drop]
 rw [h2,List.length_append,h1,List.length_append]
 omega
set_option maxRecDepth 100000 in
set_option maxHeartbeats 1000000 in
theorem RU (w0 w:World) (R:List Seg) (wb:Nat) (l:List UInt8) (Y:Seg) (pa:Option Addr) (ps:List Piece) (c:Nat) (hP:PcS w0 R pa ps) (hY:WrS wb l Y) (hA:Hp w0 (Y::R) w) (hl:l.length+(mF ps).length<140737488354000) (hps:ps.length≤9223372036854775807):Calls Tryz.prog 91 #[.pointer (some ⟨wb,0,none⟩),.slice pa ps.length c] w fun e w'=>∃ Y',e= .returned (.tuple #[])∧WrS wb (l++mF ps) Y'∧Hp w0 (Y'::R) w':=by
 obtain ⟨v,X,hO,rfl⟩:=hY
 replace hA:Hp w0 ([row wb 153 [v]]::X::R) w:=Hp.part (X:=[row wb 153 [v]]) hA
 obtain ⟨hP1,hP2⟩:=hP
 refine aJ Tryz.func91 O Tryz.ntmps91 ai (fun a hF=>?_)
 refine wS hF fun K1 hK1=>vX O<|vV O (aY O TL O O)<|vX O<|vE hK1<|wBk fun a hF=>?_
 refine bQ (G:=Nat) (fun i a x=>∃ (v1:Value) (X1:Seg),i≤ps.length∧Buf 5 1 X1 v1 (l++mF (ps.take i)).length (dc (l++mF (ps.take i)))∧Fr 22 [(8,.int .i64 (i:Int)),(0,.pointer (some ⟨wb,0,none⟩)),(6,.slice pa ps.length c),(7,.int .i64 ps.length)] a∧Hp w0 ([row wb 153 [v1]]::X1::R) x) (fun i=>ps.length-i) 0 (⟨v,X,Tv _,by rw [List.take_zero,IC,List.append_nil]; exact hO,hF.keep [8,0,6,7] rfl,hA⟩) ?_
 clear hF
 rintro i a w2 ⟨v1,X1,hi,hO,hF,hA1⟩
 refine wS hF fun K2 hK2=>vV O (aH O O O O O)<|vE hK2<|wQ fun K3 hK3 a hF=>?_
 by_cases hlt:i<ps.length
 ·refine aZ hF O (dB ag) ?_
  obtain ⟨⟨A,cA,q⟩,hp⟩:∃ q,ps[i]? = some q:=⟨_,List.getElem?_eq_getElem hlt⟩
  obtain ⟨b,o,rfl,hc⟩:=hP1.ne (i:=i) (by rw [List.length_map]; exact hlt)
  obtain ⟨hlc,hB⟩:q.length≤cA∧Rd w0 R A q:=hP2 _ (List.mem_of_getElem? hp)
  have hft:=xq hp
  have hfle:=LJ hp
  apply wp_skip
  refine hK3 _ _ ?_
  apply wp_seq_k; intro K4 hK4
  apply wp_block
  refine wS hF fun K5 hK5=>vV O (bi O TL uV O O i rfl hlt (ad2 _ _ _))<|vV O (bD (u:= .slice A q.length cA) rfl (Hq.sub hA1.q (fun _ h=>TI _ (TI _ h))) O hc i (by rw [List.length_map]; exact hlt) rfl (by rw [List.getElem?_map,hp]; rfl) Gt) fun a hF=>?_
  refine vR hF<|vX O<|vE hK5 fun a hF=>?_
  refine wp_region_lit ?_
  refine vR hF<|vX O<|vX O<|vX O<|vV O (yf 0 O Ud O uV O)<|vV O (aX O hA1.q O 0 O O Gt)<|vX O fun a hF=>?_
  refine au O (fun K hK=>dI hF O ae rfl hA1 1 O hO TC nR rfl rfl (Rc.src (hB.mono (fun _ h=>TI _ (TI _ h))) hA1.q TC) (by rw [List.length_append]; omega) ae (fun v2 X2 w3 a hO2 hF hA4=>hK _ _ ?_))
  refine vR hF<|vX O<|vV O (yf 0 O Ud O uV O) fun a hF=>?_
  refine au O (fun K hK=>aW hF O O hA4 O O 0 O (by simp) hO2.one uV (fun w5 hA6=>hK _ _ ?_))
  replace hA6:Hp w0 ([row wb 153 [v2]]::X2::R) w5:=hA6
  refine az<|hK4 _ _ ?_
  refine wp_region_lit ?_
  refine vR hF<|vV O (bH O O O (TB _ ag))<|vX O fun a hF=>?_
  refine az ?_
  rw [← eG,← List.length_append,List.append_assoc,← hft] at hO2
  exact ⟨i+1,ag,v2,X2,ag,hO2,hF.keep [8,0,6,7] rfl,hA6⟩
 ·refine aS hF O (dD ag) ?_
  obtain rfl:i=ps.length:=by omega
  rw [List.take_length] at hO
  apply wp_exit
  simp only [Exit.then,Exit.inBlock,↓reduceIte]
  refine jJ hF Tryz.results91 ?_
  exact ⟨_,rfl,⟨v1,X1,hO,rfl⟩,Hp.join hA1⟩
end Go.Proofs.YtpomngkcfbnjoaaGreatDoor
namespace Go.Proofs.YtpomngkcfbnjoaaGreatDoor
open Go.RowKit Go.Dk
theorem D5:(Tryz.prog.info? 5).map (·.size)=some 1:=af
theorem Aq:bW Tryz.prog 5=true:=af
theorem vw:isRow Tryz.prog 25 32=true:=af
theorem zM:(Tryz.prog.info? 5).map (·.size)=some 1:=af
theorem uX:(Tryz.prog.info? 25).map (·.size)=some 32:=af
set_option maxRecDepth 100000 in
set_option maxHeartbeats 1000000 in
theorem uQ (w0 w:World) (R:List Seg) (pa pb:Option Addr) (xs ys:List (List UInt8)) (ca cb:Nat) (hX:Rc w0 R pa (fF xs)) (hY:Rc w0 R pb (fF ys)) (h32xs:∀ d∈xs,d.length=32) (h32ys:∀ d∈ys,d.length=32) (hA:Hp w0 R w) (hn:xs.length≤9223372036854775807):Calls Tryz.prog 8 #[.slice pa xs.length ca,.slice pb ys.length cb] w fun e w'=>e= .returned (.bool (decide (xs=ys)))∧Hp w0 R w':=by
 refine aJ Tryz.func8 O Tryz.ntmps8 ai (fun a hF=>?_)
 refine wS hF fun K1 hK1=>vX O<|vE hK1<|wQ fun K2 hK2=>wT fun K3 hK3=>vX O<|vV O (aY O Tu O O)<|vX O<|vV O (aY O Tu O O)<|vV O (aH O O O O O)<|vE hK3 fun a hF=>?_
 by_cases hne:(xs.length:Int)≠(ys.length:Int)
 ·refine aZ hF O (nS ag) ?_
  refine wS hF fun K4 hK4=>vX O<|vE hK4 fun a hF=>?_
  apply wp_ret
  simp only [Exit.then]
  refine aO hF Tryz.results8 O ?_
  rw [decide_eq_false (fun e=>by rw [e] at hne; exact hne rfl)]
  exact ⟨rfl,hA⟩
 ·refine aS hF O (jb ag) ?_
  replace hne:xs.length=ys.length:=by omega
  apply wp_skip
  refine hK2 _ _ ?_
  apply wp_seq_k; intro K5 hK5
  refine wS hF fun K6 hK6=>vX O<|vE hK6<|wBk fun a hF=>?_
  refine bQ (G:=Nat) (fun i a x=>i≤xs.length∧xs.take i=ys.take i∧Fr 26 [(5,.int .i64 (i:Int)),(0,.slice pa xs.length ca),(1,.slice pb ys.length cb)] a∧Hp w0 (R) x) (fun i=>xs.length-i) 0 (⟨Tv _,rfl,hF.keep [5,0,1] rfl,hA⟩) ?_
  clear hF
  rintro i a w2 ⟨hi,hE,hF,hA1⟩
  apply wp_seq_k; intro K7 hK7
  refine wS hF fun K8 hK8=>vX O<|vX O<|vV O (aY O Tu O O)<|vV O (aH O O O O O)<|vE hK8 fun a hF=>?_
  by_cases hlt:i<xs.length
  ·refine aZ hF O (dB ag) ?_
   obtain ⟨q,hp⟩:∃ q,xs[i]? = some q:=⟨_,List.getElem?_eq_getElem hlt⟩
   obtain ⟨u,hu⟩:∃ u,ys[i]? = some u:=⟨_,List.getElem?_eq_getElem ag⟩
   have hT:xs.take (i+1)=xs.take i++[q]∧ys.take (i+1)=ys.take i++[u]:=⟨by rw [List.take_add_one,hp]; rfl,by rw [List.take_add_one,hu]; rfl⟩
   obtain ⟨hat0,hle0⟩:=Go.Dk.flat_at (z:=32) (Ws:=xs.map dc) (V:=dc q) (i:=i) (fun V hV=>by obtain ⟨d,hd,rfl⟩:=List.mem_map.1 hV; rw [aj]; exact h32xs d hd) (by rw [List.getElem?_map,hp]; rfl)
   obtain ⟨b1,o0,rfl,hc0⟩:=hX.ne (i:=i*32) (by show i*32<(xs.map dc).flatten.length; omega)
   obtain ⟨hat1,hle1⟩:=Go.Dk.flat_at (z:=32) (Ws:=ys.map dc) (V:=dc u) (i:=i) (fun V hV=>by obtain ⟨d,hd,rfl⟩:=List.mem_map.1 hV; rw [aj]; exact h32ys d hd) (by rw [List.getElem?_map,hu]; rfl)
   obtain ⟨b2,o1,rfl,hc1⟩:=hY.ne (i:=i*32) (by show i*32<(ys.map dc).flatten.length; omega)
   by_cases hqu:q=u
   ·apply wp_skip
    refine hK7 _ _ ?_
    apply wp_seq_k; intro K9 hK9
    apply wp_block
    apply wp_seq_k; intro K10 hK10
    refine ak 8 [8] [0,1,2,3,4,5,6,7,8] _ af af (Hq.drew hA1.q) ?_
    have hA3:=Hl.drew hA1
    refine pR hF<|pX O O<|pX O O<|pW O O (fun _=>bi O Tu uX O O i rfl hlt rfl)<|pV O O (fun x hx=>aQ O hx O hc0 (i*32) hle0 rfl hat0 vw)<|pX O O<|pX O O<|pW O O (fun _=>bi O Tu uX O O i rfl ag rfl)<|pV O O (fun x hx=>aQ O hx O hc1 (i*32) hle1 rfl hat1 vw) fun a hF=>?_
    refine bY hF O O O O ae _ (kS (X:=q) (Y:=u) (c:=false) rfl Tz TA D5 af rfl rfl (h32xs q (List.mem_of_getElem? hp)) (h32ys u (List.mem_of_getElem? hu)) (Me hqu)) (fun h=>absurd h ae) (fun a hF=>?_)
    refine aB ?_
    refine hK10 _ _ ?_
    refine dL hF O ?_
    apply wp_skip
    refine hK9 _ _ ?_
    refine wp_region_lit ?_
    refine vR hF<|vX O<|vV O (bH O O O (TB _ ag))<|vX O fun a hF=>?_
    refine az ?_
    exact ⟨i+1,ag,ag,by rw [hT.1,hT.2,hE,hqu],hF.keep [5,0,1] rfl,hA3⟩
   ·apply wp_skip
    refine hK7 _ _ ?_
    apply wp_seq_k; intro K11 hK11
    apply wp_block
    apply wp_seq_k; intro K12 hK12
    refine ak 8 [8] [0,1,2,3,4,5,6,7,8] _ af af (Hq.drew hA1.q) ?_
    have hA4:=Hl.drew hA1
    refine pR hF<|pX O O<|pX O O<|pW O O (fun _=>bi O Tu uX O O i rfl hlt rfl)<|pV O O (fun x hx=>aQ O hx O hc0 (i*32) hle0 rfl hat0 vw)<|pX O O<|pX O O<|pW O O (fun _=>bi O Tu uX O O i rfl ag rfl)<|pV O O (fun x hx=>aQ O hx O hc1 (i*32) hle1 rfl hat1 vw) fun a hF=>?_
    refine bY hF O O O O ae _ (kS (X:=q) (Y:=u) (c:=true) rfl Tz TA D5 af rfl rfl (h32xs q (List.mem_of_getElem? hp)) (h32ys u (List.mem_of_getElem? hu)) (RN hqu)) (fun h=>absurd h ae) (fun a hF=>?_)
    refine aB ?_
    refine hK12 _ _ ?_
    refine eP hF O ?_
    refine wS hF fun K13 hK13=>vX O<|vE hK13 fun a hF=>?_
    apply wp_ret
    simp only [Exit.then,Exit.inBlock]
    refine aO hF Tryz.results8 O ?_
    rw [decide_eq_false (fun e=>by rw [e,hu] at hp; exact hqu (Option.some.inj hp).symm)]
    exact ⟨rfl,hA4⟩
  ·refine aS hF O (dD ag) ?_
   obtain rfl:i=xs.length:=by omega
   rw [List.take_length,hne,List.take_length] at hE
   apply wp_exit
   refine hK5 _ _ ?_
   refine wS hF fun K14 hK14=>vX O<|vE hK14 fun a hF=>?_
   apply wp_ret
   refine aO hF Tryz.results8 O ?_
   rw [decide_eq_true hE]
   exact ⟨rfl,hA1⟩
set_option maxRecDepth 100000 in
set_option maxHeartbeats 1000000 in
theorem qF (w0 w:World) (R:List Seg) (pa pb:Option Addr) (xs ys:List (UInt8)) (ca cb:Nat) (hX:Rc w0 R pa (dc xs)) (hY:Rc w0 R pb (dc ys)) (hA:Hp w0 R w) (hn:xs.length≤9223372036854775807):Calls Tryz.prog 35 #[.slice pa xs.length ca,.slice pb ys.length cb] w fun e w'=>e= .returned (.bool (decide (xs=ys)))∧Hp w0 R w':=by
 refine aJ Tryz.func35 O Tryz.ntmps35 ai (fun a hF=>?_)
 refine wS hF fun K1 hK1=>vX O<|vE hK1<|wQ fun K2 hK2=>wT fun K3 hK3=>vX O<|vV O (aY O TC O O)<|vX O<|vV O (aY O TC O O)<|vV O (aH O O O O O)<|vE hK3 fun a hF=>?_
 by_cases hne:(xs.length:Int)≠(ys.length:Int)
 ·refine aZ hF O (nS ag) ?_
  refine wS hF fun K4 hK4=>vX O<|vE hK4 fun a hF=>?_
  apply wp_ret
  simp only [Exit.then]
  refine aO hF Tryz.results35 O ?_
  rw [decide_eq_false (fun e=>by rw [e] at hne; exact hne rfl)]
  exact ⟨rfl,hA⟩
 ·refine aS hF O (jb ag) ?_
  replace hne:xs.length=ys.length:=by omega
  apply wp_skip
  refine hK2 _ _ ?_
  apply wp_seq_k; intro K5 hK5
  refine wS hF fun K6 hK6=>vX O<|vE hK6<|wBk fun a hF=>?_
  refine bQ (G:=Nat) (fun i a x=>i≤xs.length∧xs.take i=ys.take i∧Fr 26 [(5,.int .i64 (i:Int)),(0,.slice pa xs.length ca),(1,.slice pb ys.length cb)] a∧Hp w0 (R) x) (fun i=>xs.length-i) 0 (⟨Tv _,rfl,hF.keep [5,0,1] rfl,hA⟩) ?_
  clear hF
  rintro i a w2 ⟨hi,hE,hF,hA1⟩
  apply wp_seq_k; intro K7 hK7
  refine wS hF fun K8 hK8=>vX O<|vX O<|vV O (aY O TC O O)<|vV O (aH O O O O O)<|vE hK8 fun a hF=>?_
  by_cases hlt:i<xs.length
  ·refine aZ hF O (dB ag) ?_
   obtain ⟨q,hp⟩:∃ q,xs[i]? = some q:=⟨_,List.getElem?_eq_getElem hlt⟩
   obtain ⟨u,hu⟩:∃ u,ys[i]? = some u:=⟨_,List.getElem?_eq_getElem ag⟩
   have hT:xs.take (i+1)=xs.take i++[q]∧ys.take (i+1)=ys.take i++[u]:=⟨by rw [List.take_add_one,hp]; rfl,by rw [List.take_add_one,hu]; rfl⟩
   obtain ⟨b1,o0,rfl,hc0⟩:=hX.ne (i:=i) (by rw [aj]; omega)
   obtain ⟨b2,o1,rfl,hc1⟩:=hY.ne (i:=i) (by rw [aj]; omega)
   by_cases hqu:q=u
   ·apply wp_skip
    refine hK7 _ _ ?_
    apply wp_seq_k; intro K9 hK9
    apply wp_block
    apply wp_seq_k; intro K10 hK10
    refine ak 8 [8] [0,1,2,3,4,5,6,7,8] _ af af (Hq.drew hA1.q) ?_
    have hA3:=Hl.drew hA1
    refine pR hF<|pX O O<|pX O O<|pW O O (fun _=>bi O TC zM O O i rfl hlt (ad2 _ _ _))<|pV O O (fun x hx=>bD (u:= .int .u8 (q.toNat:Int)) O hx O hc0 i (by rw [aj]; omega) rfl (by unfold dc; rw [List.getElem?_map,hp]; rfl) Aq) fun a hF=>?_
    refine pR hF<|pX O O<|pX O O<|pW O O (fun _=>bi O TC zM O O i rfl ag (ad2 _ _ _))<|pV O O (fun x hx=>bD (u:= .int .u8 (u.toNat:Int)) O hx O hc1 i (by rw [aj]; omega) rfl (by unfold dc; rw [List.getElem?_map,hu]; rfl) Aq) fun a hF=>?_
    refine bY hF O O O O ae _ (aH O O O O (jb (by rw [hqu]))) (fun h=>absurd h ae) (fun a hF=>?_)
    refine aB ?_
    refine hK10 _ _ ?_
    refine dL hF O ?_
    apply wp_skip
    refine hK9 _ _ ?_
    refine wp_region_lit ?_
    refine vR hF<|vX O<|vV O (bH O O O (TB _ ag))<|vX O fun a hF=>?_
    refine az ?_
    exact ⟨i+1,ag,ag,by rw [hT.1,hT.2,hE,hqu],hF.keep [5,0,1] rfl,hA3⟩
   ·apply wp_skip
    refine hK7 _ _ ?_
    apply wp_seq_k; intro K11 hK11
    apply wp_block
    apply wp_seq_k; intro K12 hK12
    refine ak 8 [8] [0,1,2,3,4,5,6,7,8] _ af af (Hq.drew hA1.q) ?_
    have hA4:=Hl.drew hA1
    refine pR hF<|pX O O<|pX O O<|pW O O (fun _=>bi O TC zM O O i rfl hlt (ad2 _ _ _))<|pV O O (fun x hx=>bD (u:= .int .u8 (q.toNat:Int)) O hx O hc0 i (by rw [aj]; omega) rfl (by unfold dc; rw [List.getElem?_map,hp]; rfl) Aq) fun a hF=>?_
    refine pR hF<|pX O O<|pX O O<|pW O O (fun _=>bi O TC zM O O i rfl ag (ad2 _ _ _))<|pV O O (fun x hx=>bD (u:= .int .u8 (u.toNat:Int)) O hx O hc1 i (by rw [aj]; omega) rfl (by unfold dc; rw [List.getElem?_map,hu]; rfl) Aq) fun a hF=>?_
    refine bY hF O O O O ae _ (aH O O O O (nS (fun h=>hqu (UInt8.toNat_inj.1 (Int.ofNat.inj h))))) (fun h=>absurd h ae) (fun a hF=>?_)
    refine aB ?_
    refine hK12 _ _ ?_
    refine eP hF O ?_
    refine wS hF fun K13 hK13=>vX O<|vE hK13 fun a hF=>?_
    apply wp_ret
    simp only [Exit.then,Exit.inBlock]
    refine aO hF Tryz.results35 O ?_
    rw [decide_eq_false (fun e=>by rw [e,hu] at hp; exact hqu (Option.some.inj hp).symm)]
    exact ⟨rfl,hA4⟩
  ·refine aS hF O (dD ag) ?_
   obtain rfl:i=xs.length:=by omega
   rw [List.take_length,hne,List.take_length] at hE
   apply wp_exit
   refine hK5 _ _ ?_
   refine wS hF fun K14 hK14=>vX O<|vE hK14 fun a hF=>?_
   apply wp_ret
   refine aO hF Tryz.results35 O ?_
   rw [decide_eq_true hE]
   exact ⟨rfl,hA1⟩
end Go.Proofs.YtpomngkcfbnjoaaGreatDoor
