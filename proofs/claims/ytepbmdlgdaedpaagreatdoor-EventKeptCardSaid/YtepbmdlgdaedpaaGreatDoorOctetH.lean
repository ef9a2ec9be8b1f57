/- octet's Writer over segments. -/
import Derived.Test.YtepbmdlgdaedpaaGreatDoorOctetW
import Derived.Test.YtepbmdlgdaedpaaGreatDoorHr
/- octet's Writer over segments. -/
namespace Go.Proofs.YtepbmdlgdaedpaaGreatDoor
open Go.RowKit Go.Dk
def WrS (g:Nat) (l:List UInt8) (Y:Seg):Prop:=∃ v X,Buf 5 1 X v l.length (dc l)∧Y=row g 163 [v]::X
theorem WrS.same {g:Nat} {l l':List UInt8} {Y:Seg} (h:WrS g l Y) (e:l=l'):WrS g l' Y:=e ▸ h
theorem uU:bi Tryz.prog 9=true:=af
theorem Hm:isRow Tryz.prog 29 32=true:=af
theorem uB:(Tryz.prog.info? 9).map (·.size)=some 1:=af
theorem dP:(Tryz.prog.info? 27).map (·.size)=some 1:=af
theorem zV:(Tryz.prog.info? 29).map (·.size)=some 32:=af
theorem A8:aK Tryz.prog 74:=⟨_,Tryz.func74,af,af⟩
theorem Ja:aK Tryz.prog 76:=⟨_,Tryz.func76,af,af⟩
theorem AU:aK Tryz.prog 88:=⟨_,Tryz.func88,af,af⟩
theorem IR:aK Tryz.prog 95:=⟨_,Tryz.func95,af,af⟩
theorem F9:aK Tryz.prog 137:=⟨_,Tryz.func137,af,af⟩
theorem F7:aK Tryz.prog 138:=⟨_,Tryz.func138,af,af⟩
theorem oG:aK Tryz.prog 139:=⟨_,Tryz.func139,af,af⟩
theorem FY:aK Tryz.prog 145:=⟨_,Tryz.func145,af,af⟩
theorem FV:aK Tryz.prog 152:=⟨_,Tryz.func152,af,af⟩
theorem GG:dB Tryz.prog 29 (.agg (dc (List.replicate 32 0)).toArray):=by unfold dB; kernel_rfl
set_option maxRecDepth 100000 in
set_option maxHeartbeats 1000000 in
theorem zl (w0 w:World) (R:List Seg) (hA:Hp w0 R w):Calls Tryz.prog 45 #[] w fun e w'=>∃ g Y,e= .returned (.pointer (some ⟨g,0,none⟩))∧WrS g [] Y∧Hp w0 (Y::R) w':=by
 refine aP Tryz.func45 O Tryz.ntmps45 ai (fun a hF=>?_)
 refine wS hF fun K1 hK1=>vX O<|vE hK1<|wT fun K2 hK2=>vV O (eX O JR) fun a hF=>?_
 refine ax O (fun K hK=>ed (cs:=[.slice none 0 0]) hF O ae rfl hA O (fun b1 w2 a hb1 hF hA3=>hK _ _ ?_))
 refine vR hF<|vX O<|vE hK2 fun a hF=>?_
 apply wp_ret
 refine aO hF Tryz.results45 O ?_
 exact ⟨b1,_,rfl,⟨_,[],Buf.nil _ _,rfl⟩,hA3⟩
set_option maxRecDepth 100000 in
set_option maxHeartbeats 1000000 in
theorem fP (w0 w:World) (R:List Seg) (wb:Nat) (l:List UInt8) (Y:Seg) (n:Nat) (hn:n<2 ^ 8) (z:Int) (hz:z=n) (hY:WrS wb l Y) (hA:Hp w0 (Y::R) w) (hl:l.length<140737500000000) :
  Calls Tryz.prog 74 #[.pointer (some ⟨wb,0,none⟩),.int .u8 z] w fun e w'=>∃ Y',e= .returned (.tuple #[])∧WrS wb (l++be 1 n) Y'∧Hp w0 (Y'::R) w':=by
 subst hz
 obtain ⟨v,X,hO,rfl⟩:=hY
 replace hA:Hp w0 ([row wb 163 [v]]::X::R) w:=Hp.part (X:=[row wb 163 [v]]) hA
 refine aP Tryz.func74 O Tryz.ntmps74 ai (fun a hF=>?_)
 apply wp_seq_k; intro K1 hK1
 refine wS hF fun K2 hK2=>vX O<|vV O (gy O af rfl rfl)<|vE hK2<|vF1 O<|wKp hK1 fun a hF=>?_
 refine wp_seq_k fun K3 hK3=>wp_region_lit ?_
 refine ax O (fun K hK=>ay hF O ae F9 rfl rfl ?_)
 with_reducible refine (lI w).mono ?_
 rintro e' w3 ⟨rfl,rfl⟩
 refine ⟨_,rfl,fun a hF=>hK _ _ ?_⟩
 refine vR hF<|vV O (eu O O O (Np _ ag))<|vX O<|vE hK3<|wBk fun a hF=>?_
 refine bH (G:=Nat) (fun j a x=>∃ (v1:Value) (X1:Seg),j≤1∧Buf 5 1 X1 v1 (l++(be 1 n).take j).length (dc (l++(be 1 n).take j))∧Fr 28 [(4,.int .i64 (1-1-(j:Int))),(0,.pointer (some ⟨wb,0,none⟩)),(1,.int .u8 n)] a∧Hp w0 ([row wb 163 [v1]]::X1::R) x) (fun j=>1-j) 0 (⟨v,X,Nl _,by rw [List.take_zero,List.append_nil]; exact hO,hF.keep [4,0,1] rfl,hA⟩) ?_
 clear hF
 rintro j a w5 ⟨v1,X1,hj,hO,hF,hA4⟩
 apply wp_seq_k; intro K4 hK4
 refine wS hF fun K5 hK5=>vX O<|vV O (aF O O O O O)<|vE hK5 fun a hF=>?_
 by_cases hlt:j<1
 ·refine aG hF O (Aw ag) ?_
  apply wp_skip
  refine hK4 _ _ ?_
  apply wp_seq_k; intro K6 hK6
  apply wp_block
  refine aQ 13 [11,12,13,14,15] [0,1,2,3,4,5,6,7,8,9,10,11,12,13,14,15] (fun x=>Hq w0 ([row wb 163 [v1]]::R) x) af af (Hq.drew (Hp.qp [[row wb 163 [v1]],X1] R [0] hA4)) ?_
  have hA6:=Hl.drew hA4
  refine pR hF<|pX O O<|pX O O<|pX O O<|pW O O (fun _=>yf 0 O NW O dP O)<|pV O O (fun x hx=>aU O hx O 0 O O jr)<|pX O O<|pW O O (fun _=>bW O NI NJ O (show IntKind.u64.wrap (n:Int)=(n:Int) by rw [IntKind.wrap_u64]; omega)) fun a hF=>?_
  refine pR hF<|pX O O<|pW O O (fun _=>wJ O O O (show IntKind.i64.wrap (8*(1-1-(j:Int)))=((8*(1-1-j):Nat):Int) by rw [Np _ ag]; omega)) fun a hF=>?_
  refine pR hF<|pW O O (fun _=>lC O O O ag rfl)<|pW O O (fun _=>bW O NJ NI O (uM n (1-1-j) (8*(1-1-j)) O ag)) fun a hF=>?_
  refine fG O O O (fun K hK=>nP hF O ae rfl hA6 (UInt8.ofNat (n/256 ^ (1-1-j))) O nG (fun b7 w8 a hb7 hF hA9=>hK _ _ (fun _=>?_) ?_))
  ·exact Hp.qp [[row b7 5 (dc [(UInt8.ofNat (n/256 ^ (1-1-j)))])],[row wb 163 [v1]],X1] R [1] hA9
  replace hA9:Hp w0 ([row b7 5 (dc [(UInt8.ofNat (n/256 ^ (1-1-j)))])]::[row wb 163 [v1]]::X1::R) w8:=hA9
  refine fG O O O (fun K hK=>cO hF O ae rfl hA9 2 O hO Nq gQ rfl rfl (Bts.src (l:=[(UInt8.ofNat (n/256 ^ (1-1-j)))]) Nq (Rc.bts (w0:=w0) (R:=[row b7 5 (dc [(UInt8.ofNat (n/256 ^ (1-1-j)))])]::[row wb 163 [v1]]::X1::R) (Rc.ofRow (i:=0) rfl rfl) hA9.q)) (by simp only [List.length_append,List.length_take,List.length_cons,List.length_nil,be,List.length_map,List.length_range] at *; omega) ae (fun v2 X2 w10 a hO2 hF hA11=>hK _ _ (fun _=>?_) ?_))
  ·exact Hp.qp [[row b7 5 (dc [(UInt8.ofNat (n/256 ^ (1-1-j)))])],[row wb 163 [v1]],X2] R [1] hA11
  replace hA11:Hp w0 ([row b7 5 (dc [(UInt8.ofNat (n/256 ^ (1-1-j)))])]::[row wb 163 [v1]]::X2::R) w10:=hA11
  refine dG hF O O O O ae _ (aZ O O) (fun h=>absurd h ae) (fun a hF=>?_)
  refine dG hF O O O O ae _ (yf 0 O NW O dP O) (fun h=>absurd h ae) (fun a hF=>?_)
  refine fG O O O (fun K hK=>aX hF O O hA11 O O 1 O (by simp) hO2.one dP (fun w12 hA13=>hK _ _ (fun h=>absurd h ae) ?_))
  replace hA13:Hp w0 ([row b7 5 (dc [(UInt8.ofNat (n/256 ^ (1-1-j)))])]::[row wb 163 [v2]]::X2::R) w12:=hA13
  refine bI ?_
  refine hK6 _ _ ?_
  refine wp_region_lit ?_
  refine vR hF<|vX O<|vV O (eu O O O (show IntKind.i64.wrap (1-1-(j:Int)-1)=1-1-((j+1:Nat):Int) by rw [Np _ ag]; omega)) fun a hF=>?_
  refine vR hF<|vX O fun a hF=>?_
  refine aH ?_
  have e:l++(be 1 n).take j++[(UInt8.ofNat (n/256 ^ (1-1-j)))]=l++(be 1 n).take (j+1):=by rw [List.append_assoc,Ad 1 n j hlt]
  have e2:(l++(be 1 n).take j).length+[(UInt8.ofNat (n/256 ^ (1-1-j)))].length=(l++(be 1 n).take (j+1)).length:=by rw [← e]; simp only [List.length_append]
  rw [← iO,e,e2] at hO2
  have hA14:Hp w0 ([row wb 163 [v2]]::X2::R) w12:=hpS 3 [1,2] [0] hA13 rfl
  exact ⟨j+1,ag,v2,X2,ag,hO2,hF.keep [4,0,1] rfl,hA14⟩
 ·refine au hF O (Az ag) ?_
  obtain rfl:j=1:=by omega
  rw [mg] at hO
  apply wp_exit
  simp only [Exit.then,Exit.inBlock,↓reduceIte]
  refine gJ hF Tryz.results74 ?_
  exact ⟨_,rfl,⟨v1,X1,hO,rfl⟩,Hp.join hA4⟩
set_option maxRecDepth 100000 in
set_option maxHeartbeats 1000000 in
theorem gX (w0 w:World) (R:List Seg) (wb:Nat) (l:List UInt8) (Y:Seg) (n:Nat) (hn:n<2 ^ 16) (z:Int) (hz:z=n) (hY:WrS wb l Y) (hA:Hp w0 (Y::R) w) (hl:l.length<140737500000000) :
  Calls Tryz.prog 88 #[.pointer (some ⟨wb,0,none⟩),.int .u16 z] w fun e w'=>∃ Y',e= .returned (.tuple #[])∧WrS wb (l++be 2 n) Y'∧Hp w0 (Y'::R) w':=by
 subst hz
 obtain ⟨v,X,hO,rfl⟩:=hY
 replace hA:Hp w0 ([row wb 163 [v]]::X::R) w:=Hp.part (X:=[row wb 163 [v]]) hA
 refine aP Tryz.func88 O Tryz.ntmps88 ai (fun a hF=>?_)
 apply wp_seq_k; intro K1 hK1
 refine wS hF fun K2 hK2=>vX O<|vV O (gy O af rfl rfl)<|vE hK2<|vF1 O<|wKp hK1 fun a hF=>?_
 refine wp_seq_k fun K3 hK3=>wp_region_lit ?_
 refine ax O (fun K hK=>ay hF O ae FY rfl rfl ?_)
 with_reducible refine (lg w).mono ?_
 rintro e' w3 ⟨rfl,rfl⟩
 refine ⟨_,rfl,fun a hF=>hK _ _ ?_⟩
 refine vR hF<|vV O (eu O O O (Np _ ag))<|vX O<|vE hK3<|wBk fun a hF=>?_
 refine bH (G:=Nat) (fun j a x=>∃ (v1:Value) (X1:Seg),j≤2∧Buf 5 1 X1 v1 (l++(be 2 n).take j).length (dc (l++(be 2 n).take j))∧Fr 28 [(4,.int .i64 (2-1-(j:Int))),(0,.pointer (some ⟨wb,0,none⟩)),(1,.int .u16 n)] a∧Hp w0 ([row wb 163 [v1]]::X1::R) x) (fun j=>2-j) 0 (⟨v,X,Nl _,by rw [List.take_zero,List.append_nil]; exact hO,hF.keep [4,0,1] rfl,hA⟩) ?_
 clear hF
 rintro j a w5 ⟨v1,X1,hj,hO,hF,hA4⟩
 apply wp_seq_k; intro K4 hK4
 refine wS hF fun K5 hK5=>vX O<|vV O (aF O O O O O)<|vE hK5 fun a hF=>?_
 by_cases hlt:j<2
 ·refine aG hF O (Aw ag) ?_
  apply wp_skip
  refine hK4 _ _ ?_
  apply wp_seq_k; intro K6 hK6
  apply wp_block
  refine aQ 13 [11,12,13,14,15] [0,1,2,3,4,5,6,7,8,9,10,11,12,13,14,15] (fun x=>Hq w0 ([row wb 163 [v1]]::R) x) af af (Hq.drew (Hp.qp [[row wb 163 [v1]],X1] R [0] hA4)) ?_
  have hA6:=Hl.drew hA4
  refine pR hF<|pX O O<|pX O O<|pX O O<|pW O O (fun _=>yf 0 O NW O dP O)<|pV O O (fun x hx=>aU O hx O 0 O O jr)<|pX O O<|pW O O (fun _=>bW O NY NJ O (show IntKind.u64.wrap (n:Int)=(n:Int) by rw [IntKind.wrap_u64]; omega)) fun a hF=>?_
  refine pR hF<|pX O O<|pW O O (fun _=>wJ O O O (show IntKind.i64.wrap (8*(2-1-(j:Int)))=((8*(2-1-j):Nat):Int) by rw [Np _ ag]; omega)) fun a hF=>?_
  refine pR hF<|pW O O (fun _=>lC O O O ag rfl)<|pW O O (fun _=>bW O NJ NI O (uM n (2-1-j) (8*(2-1-j)) O ag)) fun a hF=>?_
  refine fG O O O (fun K hK=>nP hF O ae rfl hA6 (UInt8.ofNat (n/256 ^ (2-1-j))) O nG (fun b7 w8 a hb7 hF hA9=>hK _ _ (fun _=>?_) ?_))
  ·exact Hp.qp [[row b7 5 (dc [(UInt8.ofNat (n/256 ^ (2-1-j)))])],[row wb 163 [v1]],X1] R [1] hA9
  replace hA9:Hp w0 ([row b7 5 (dc [(UInt8.ofNat (n/256 ^ (2-1-j)))])]::[row wb 163 [v1]]::X1::R) w8:=hA9
  refine fG O O O (fun K hK=>cO hF O ae rfl hA9 2 O hO Nq gQ rfl rfl (Bts.src (l:=[(UInt8.ofNat (n/256 ^ (2-1-j)))]) Nq (Rc.bts (w0:=w0) (R:=[row b7 5 (dc [(UInt8.ofNat (n/256 ^ (2-1-j)))])]::[row wb 163 [v1]]::X1::R) (Rc.ofRow (i:=0) rfl rfl) hA9.q)) (by simp only [List.length_append,List.length_take,List.length_cons,List.length_nil,be,List.length_map,List.length_range] at *; omega) ae (fun v2 X2 w10 a hO2 hF hA11=>hK _ _ (fun _=>?_) ?_))
  ·exact Hp.qp [[row b7 5 (dc [(UInt8.ofNat (n/256 ^ (2-1-j)))])],[row wb 163 [v1]],X2] R [1] hA11
  replace hA11:Hp w0 ([row b7 5 (dc [(UInt8.ofNat (n/256 ^ (2-1-j)))])]::[row wb 163 [v1]]::X2::R) w10:=hA11
  refine dG hF O O O O ae _ (aZ O O) (fun h=>absurd h ae) (fun a hF=>?_)
  refine dG hF O O O O ae _ (yf 0 O NW O dP O) (fun h=>absurd h ae) (fun a hF=>?_)
  refine fG O O O (fun K hK=>aX hF O O hA11 O O 1 O (by simp) hO2.one dP (fun w12 hA13=>hK _ _ (fun h=>absurd h ae) ?_))
  replace hA13:Hp w0 ([row b7 5 (dc [(UInt8.ofNat (n/256 ^ (2-1-j)))])]::[row wb 163 [v2]]::X2::R) w12:=hA13
  refine bI ?_
  refine hK6 _ _ ?_
  refine wp_region_lit ?_
  refine vR hF<|vX O<|vV O (eu O O O (show IntKind.i64.wrap (2-1-(j:Int)-1)=2-1-((j+1:Nat):Int) by rw [Np _ ag]; omega)) fun a hF=>?_
  refine vR hF<|vX O fun a hF=>?_
  refine aH ?_
  have e:l++(be 2 n).take j++[(UInt8.ofNat (n/256 ^ (2-1-j)))]=l++(be 2 n).take (j+1):=by rw [List.append_assoc,Ad 2 n j hlt]
  have e2:(l++(be 2 n).take j).length+[(UInt8.ofNat (n/256 ^ (2-1-j)))].length=(l++(be 2 n).take (j+1)).length:=by rw [← e]; simp only [List.length_append]
  rw [← iO,e,e2] at hO2
  have hA14:Hp w0 ([row wb 163 [v2]]::X2::R) w12:=hpS 3 [1,2] [0] hA13 rfl
  exact ⟨j+1,ag,v2,X2,ag,hO2,hF.keep [4,0,1] rfl,hA14⟩
 ·refine au hF O (Az ag) ?_
  obtain rfl:j=2:=by omega
  rw [mg] at hO
  apply wp_exit
  simp only [Exit.then,Exit.inBlock,↓reduceIte]
  refine gJ hF Tryz.results88 ?_
  exact ⟨_,rfl,⟨v1,X1,hO,rfl⟩,Hp.join hA4⟩
set_option maxRecDepth 100000 in
set_option maxHeartbeats 1000000 in
theorem mQ (w0 w:World) (R:List Seg) (wb:Nat) (l:List UInt8) (Y:Seg) (n:Nat) (hn:n<2 ^ 32) (z:Int) (hz:z=n) (hY:WrS wb l Y) (hA:Hp w0 (Y::R) w) (hl:l.length<140737500000000) :
  Calls Tryz.prog 95 #[.pointer (some ⟨wb,0,none⟩),.int .u32 z] w fun e w'=>∃ Y',e= .returned (.tuple #[])∧WrS wb (l++be 4 n) Y'∧Hp w0 (Y'::R) w':=by
 subst hz
 obtain ⟨v,X,hO,rfl⟩:=hY
 replace hA:Hp w0 ([row wb 163 [v]]::X::R) w:=Hp.part (X:=[row wb 163 [v]]) hA
 refine aP Tryz.func95 O Tryz.ntmps95 ai (fun a hF=>?_)
 apply wp_seq_k; intro K1 hK1
 refine wS hF fun K2 hK2=>vX O<|vV O (gy O af rfl rfl)<|vE hK2<|vF1 O<|wKp hK1 fun a hF=>?_
 refine wp_seq_k fun K3 hK3=>wp_region_lit ?_
 refine ax O (fun K hK=>ay hF O ae FV rfl rfl ?_)
 with_reducible refine (kZ w).mono ?_
 rintro e' w3 ⟨rfl,rfl⟩
 refine ⟨_,rfl,fun a hF=>hK _ _ ?_⟩
 refine vR hF<|vV O (eu O O O (Np _ ag))<|vX O<|vE hK3<|wBk fun a hF=>?_
 refine bH (G:=Nat) (fun j a x=>∃ (v1:Value) (X1:Seg),j≤4∧Buf 5 1 X1 v1 (l++(be 4 n).take j).length (dc (l++(be 4 n).take j))∧Fr 28 [(4,.int .i64 (4-1-(j:Int))),(0,.pointer (some ⟨wb,0,none⟩)),(1,.int .u32 n)] a∧Hp w0 ([row wb 163 [v1]]::X1::R) x) (fun j=>4-j) 0 (⟨v,X,Nl _,by rw [List.take_zero,List.append_nil]; exact hO,hF.keep [4,0,1] rfl,hA⟩) ?_
 clear hF
 rintro j a w5 ⟨v1,X1,hj,hO,hF,hA4⟩
 apply wp_seq_k; intro K4 hK4
 refine wS hF fun K5 hK5=>vX O<|vV O (aF O O O O O)<|vE hK5 fun a hF=>?_
 by_cases hlt:j<4
 ·refine aG hF O (Aw ag) ?_
  apply wp_skip
  refine hK4 _ _ ?_
  apply wp_seq_k; intro K6 hK6
  apply wp_block
  refine aQ 13 [11,12,13,14,15] [0,1,2,3,4,5,6,7,8,9,10,11,12,13,14,15] (fun x=>Hq w0 ([row wb 163 [v1]]::R) x) af af (Hq.drew (Hp.qp [[row wb 163 [v1]],X1] R [0] hA4)) ?_
  have hA6:=Hl.drew hA4
  refine pR hF<|pX O O<|pX O O<|pX O O<|pW O O (fun _=>yf 0 O NW O dP O)<|pV O O (fun x hx=>aU O hx O 0 O O jr)<|pX O O<|pW O O (fun _=>bW O NZ NJ O (show IntKind.u64.wrap (n:Int)=(n:Int) by rw [IntKind.wrap_u64]; omega)) fun a hF=>?_
  refine pR hF<|pX O O<|pW O O (fun _=>wJ O O O (show IntKind.i64.wrap (8*(4-1-(j:Int)))=((8*(4-1-j):Nat):Int) by rw [Np _ ag]; omega)) fun a hF=>?_
  refine pR hF<|pW O O (fun _=>lC O O O ag rfl)<|pW O O (fun _=>bW O NJ NI O (uM n (4-1-j) (8*(4-1-j)) O ag)) fun a hF=>?_
  refine fG O O O (fun K hK=>nP hF O ae rfl hA6 (UInt8.ofNat (n/256 ^ (4-1-j))) O nG (fun b7 w8 a hb7 hF hA9=>hK _ _ (fun _=>?_) ?_))
  ·exact Hp.qp [[row b7 5 (dc [(UInt8.ofNat (n/256 ^ (4-1-j)))])],[row wb 163 [v1]],X1] R [1] hA9
  replace hA9:Hp w0 ([row b7 5 (dc [(UInt8.ofNat (n/256 ^ (4-1-j)))])]::[row wb 163 [v1]]::X1::R) w8:=hA9
  refine fG O O O (fun K hK=>cO hF O ae rfl hA9 2 O hO Nq gQ rfl rfl (Bts.src (l:=[(UInt8.ofNat (n/256 ^ (4-1-j)))]) Nq (Rc.bts (w0:=w0) (R:=[row b7 5 (dc [(UInt8.ofNat (n/256 ^ (4-1-j)))])]::[row wb 163 [v1]]::X1::R) (Rc.ofRow (i:=0) rfl rfl) hA9.q)) (by simp only [List.length_append,List.length_take,List.length_cons,List.length_nil,be,List.length_map,List.length_range] at *; omega) ae (fun v2 X2 w10 a hO2 hF hA11=>hK _ _ (fun _=>?_) ?_))
  ·exact Hp.qp [[row b7 5 (dc [(UInt8.ofNat (n/256 ^ (4-1-j)))])],[row wb 163 [v1]],X2] R [1] hA11
  replace hA11:Hp w0 ([row b7 5 (dc [(UInt8.ofNat (n/256 ^ (4-1-j)))])]::[row wb 163 [v1]]::X2::R) w10:=hA11
  refine dG hF O O O O ae _ (aZ O O) (fun h=>absurd h ae) (fun a hF=>?_)
  refine dG hF O O O O ae _ (yf 0 O NW O dP O) (fun h=>absurd h ae) (fun a hF=>?_)
  refine fG O O O (fun K hK=>aX hF O O hA11 O O 1 O (by simp) hO2.one dP (fun w12 hA13=>hK _ _ (fun h=>absurd h ae) ?_))
  replace hA13:Hp w0 ([row b7 5 (dc [(UInt8.ofNat (n/256 ^ (4-1-j)))])]::[row wb 163 [v2]]::X2::R) w12:=hA13
  refine bI ?_
  refine hK6 _ _ ?_
  refine wp_region_lit ?_
  refine vR hF<|vX O<|vV O (eu O O O (show IntKind.i64.wrap (4-1-(j:Int)-1)=4-1-((j+1:Nat):Int) by rw [Np _ ag]; omega)) fun a hF=>?_
  refine vR hF<|vX O fun a hF=>?_
  refine aH ?_
  have e:l++(be 4 n).take j++[(UInt8.ofNat (n/256 ^ (4-1-j)))]=l++(be 4 n).take (j+1):=by rw [List.append_assoc,Ad 4 n j hlt]
  have e2:(l++(be 4 n).take j).length+[(UInt8.ofNat (n/256 ^ (4-1-j)))].length=(l++(be 4 n).take (j+1)).length:=by rw [← e]; simp only [List.length_append]
  rw [← iO,e,e2] at hO2
  have hA14:Hp w0 ([row wb 163 [v2]]::X2::R) w12:=hpS 3 [1,2] [0] hA13 rfl
  exact ⟨j+1,ag,v2,X2,ag,hO2,hF.keep [4,0,1] rfl,hA14⟩
 ·refine au hF O (Az ag) ?_
  obtain rfl:j=4:=by omega
  rw [mg] at hO
  apply wp_exit
  simp only [Exit.then,Exit.inBlock,↓reduceIte]
  refine gJ hF Tryz.results95 ?_
  exact ⟨_,rfl,⟨v1,X1,hO,rfl⟩,Hp.join hA4⟩
set_option maxRecDepth 100000 in
set_option maxHeartbeats 1000000 in
theorem fU (w0 w:World) (R:List Seg) (wb:Nat) (l:List UInt8) (Y:Seg) (n:Nat) (_hn:n<2 ^ 64) (z:Int) (hz:z=n) (hY:WrS wb l Y) (hA:Hp w0 (Y::R) w) (hl:l.length<140737500000000) :
  Calls Tryz.prog 75 #[.pointer (some ⟨wb,0,none⟩),.int .u64 z] w fun e w'=>∃ Y',e= .returned (.tuple #[])∧WrS wb (l++be 8 n) Y'∧Hp w0 (Y'::R) w':=by
 subst hz
 obtain ⟨v,X,hO,rfl⟩:=hY
 replace hA:Hp w0 ([row wb 163 [v]]::X::R) w:=Hp.part (X:=[row wb 163 [v]]) hA
 refine aP Tryz.func75 O Tryz.ntmps75 ai (fun a hF=>?_)
 apply wp_seq_k; intro K1 hK1
 refine wS hF fun K2 hK2=>vX O<|vV O (gy O af rfl rfl)<|vE hK2<|vF1 O<|wKp hK1 fun a hF=>?_
 refine wp_seq_k fun K3 hK3=>wp_region_lit ?_
 refine ax O (fun K hK=>ay hF O ae F7 rfl rfl ?_)
 with_reducible refine (kY w).mono ?_
 rintro e' w3 ⟨rfl,rfl⟩
 refine ⟨_,rfl,fun a hF=>hK _ _ ?_⟩
 refine vR hF<|vV O (eu O O O (Np _ ag))<|vX O<|vE hK3<|wBk fun a hF=>?_
 refine bH (G:=Nat) (fun j a x=>∃ (v1:Value) (X1:Seg),j≤8∧Buf 5 1 X1 v1 (l++(be 8 n).take j).length (dc (l++(be 8 n).take j))∧Fr 27 [(4,.int .i64 (8-1-(j:Int))),(0,.pointer (some ⟨wb,0,none⟩)),(1,.int .u64 n)] a∧Hp w0 ([row wb 163 [v1]]::X1::R) x) (fun j=>8-j) 0 (⟨v,X,Nl _,by rw [List.take_zero,List.append_nil]; exact hO,hF.keep [4,0,1] rfl,hA⟩) ?_
 clear hF
 rintro j a w5 ⟨v1,X1,hj,hO,hF,hA4⟩
 apply wp_seq_k; intro K4 hK4
 refine wS hF fun K5 hK5=>vX O<|vV O (aF O O O O O)<|vE hK5 fun a hF=>?_
 by_cases hlt:j<8
 ·refine aG hF O (Aw ag) ?_
  apply wp_skip
  refine hK4 _ _ ?_
  apply wp_seq_k; intro K6 hK6
  apply wp_block
  refine aQ 12 [10,11,12,13,14] [0,1,2,3,4,5,6,7,8,9,10,11,12,13,14] (fun x=>Hq w0 ([row wb 163 [v1]]::R) x) af af (Hq.drew (Hp.qp [[row wb 163 [v1]],X1] R [0] hA4)) ?_
  have hA6:=Hl.drew hA4
  refine pR hF<|pX O O<|pX O O<|pX O O<|pW O O (fun _=>yf 0 O NW O dP O)<|pV O O (fun x hx=>aU O hx O 0 O O jr)<|pX O O<|pX O O<|pW O O (fun _=>wJ O O O (show IntKind.i64.wrap (8*(8-1-(j:Int)))=((8*(8-1-j):Nat):Int) by rw [Np _ ag]; omega)) fun a hF=>?_
  refine pR hF<|pW O O (fun _=>lC O O O ag rfl)<|pW O O (fun _=>bW O NJ NI O (uM n (8-1-j) (8*(8-1-j)) O ag)) fun a hF=>?_
  refine fG O O O (fun K hK=>nP hF O ae rfl hA6 (UInt8.ofNat (n/256 ^ (8-1-j))) O nG (fun b7 w8 a hb7 hF hA9=>hK _ _ (fun _=>?_) ?_))
  ·exact Hp.qp [[row b7 5 (dc [(UInt8.ofNat (n/256 ^ (8-1-j)))])],[row wb 163 [v1]],X1] R [1] hA9
  replace hA9:Hp w0 ([row b7 5 (dc [(UInt8.ofNat (n/256 ^ (8-1-j)))])]::[row wb 163 [v1]]::X1::R) w8:=hA9
  refine fG O O O (fun K hK=>cO hF O ae rfl hA9 2 O hO Nq gQ rfl rfl (Bts.src (l:=[(UInt8.ofNat (n/256 ^ (8-1-j)))]) Nq (Rc.bts (w0:=w0) (R:=[row b7 5 (dc [(UInt8.ofNat (n/256 ^ (8-1-j)))])]::[row wb 163 [v1]]::X1::R) (Rc.ofRow (i:=0) rfl rfl) hA9.q)) (by simp only [List.length_append,List.length_take,List.length_cons,List.length_nil,be,List.length_map,List.length_range] at *; omega) ae (fun v2 X2 w10 a hO2 hF hA11=>hK _ _ (fun _=>?_) ?_))
  ·exact Hp.qp [[row b7 5 (dc [(UInt8.ofNat (n/256 ^ (8-1-j)))])],[row wb 163 [v1]],X2] R [1] hA11
  replace hA11:Hp w0 ([row b7 5 (dc [(UInt8.ofNat (n/256 ^ (8-1-j)))])]::[row wb 163 [v1]]::X2::R) w10:=hA11
  refine dG hF O O O O ae _ (aZ O O) (fun h=>absurd h ae) (fun a hF=>?_)
  refine dG hF O O O O ae _ (yf 0 O NW O dP O) (fun h=>absurd h ae) (fun a hF=>?_)
  refine fG O O O (fun K hK=>aX hF O O hA11 O O 1 O (by simp) hO2.one dP (fun w12 hA13=>hK _ _ (fun h=>absurd h ae) ?_))
  replace hA13:Hp w0 ([row b7 5 (dc [(UInt8.ofNat (n/256 ^ (8-1-j)))])]::[row wb 163 [v2]]::X2::R) w12:=hA13
  refine bI ?_
  refine hK6 _ _ ?_
  refine wp_region_lit ?_
  refine vR hF<|vX O<|vV O (eu O O O (show IntKind.i64.wrap (8-1-(j:Int)-1)=8-1-((j+1:Nat):Int) by rw [Np _ ag]; omega)) fun a hF=>?_
  refine vR hF<|vX O fun a hF=>?_
  refine aH ?_
  have e:l++(be 8 n).take j++[(UInt8.ofNat (n/256 ^ (8-1-j)))]=l++(be 8 n).take (j+1):=by rw [List.append_assoc,Ad 8 n j hlt]
  have e2:(l++(be 8 n).take j).length+[(UInt8.ofNat (n/256 ^ (8-1-j)))].length=(l++(be 8 n).take (j+1)).length:=by rw [← e]; simp only [List.length_append]
  rw [← iO,e,e2] at hO2
  have hA14:Hp w0 ([row wb 163 [v2]]::X2::R) w12:=hpS 3 [1,2] [0] hA13 rfl
  exact ⟨j+1,ag,v2,X2,ag,hO2,hF.keep [4,0,1] rfl,hA14⟩
 ·refine au hF O (Az ag) ?_
  obtain rfl:j=8:=by omega
  rw [mg] at hO
  apply wp_exit
  simp only [Exit.then,Exit.inBlock,↓reduceIte]
  refine gJ hF Tryz.results75 ?_
  exact ⟨_,rfl,⟨v1,X1,hO,rfl⟩,Hp.join hA4⟩
set_option maxRecDepth 100000 in
set_option maxHeartbeats 1000000 in
theorem Ky (w0 w:World) (R:List Seg) (wb:Nat) (l:List UInt8) (Y:Seg) (hY:WrS wb l Y) (hA:Hp w0 (Y::R) w):Calls Tryz.prog 79 #[.pointer (some ⟨wb,0,none⟩)] w fun e w'=>e= .returned (.int .i64 (l.length:Nat))∧w=w':=by
 obtain ⟨v,X,hO,rfl⟩:=hY
 replace hA:Hp w0 ([row wb 163 [v]]::X::R) w:=Hp.part (X:=[row wb 163 [v]]) hA
 obtain ⟨_,A,c,rfl,hc,hB⟩:=hO.rd (w0:=w0) (R:=[X]) (Nu ..)
 refine aP Tryz.func79 O Tryz.ntmps79 ai (fun a hF=>?_)
 refine wS hF fun K1 hK1=>vX O<|vE hK1<|wT fun K2 hK2=>vX O<|vX O<|vV O (yf 0 O NW O dP O)<|vV O (aU O hA.q O 0 O O jr)<|vV O (aT O Nq O O)<|vX O<|vE hK2 fun a hF=>?_
 apply wp_ret
 refine aO hF Tryz.results79 O ?_
 exact ⟨rfl,rfl⟩
set_option maxRecDepth 100000 in
set_option maxHeartbeats 1000000 in
theorem zq (w0 w:World) (R:List Seg) (wb:Nat) (l:List UInt8) (Y:Seg) (hY:WrS wb l Y) (hA:Hp w0 (Y::R) w) (hl:l.length<140737500000000):Calls Tryz.prog 50 #[.pointer (some ⟨wb,0,none⟩)] w fun e w'=>∃ v' Z Y',e= .returned v'∧Buf 5 1 Z v' l.length (dc l)∧WrS wb l Y'∧Hp w0 (Z::Y'::R) w':=by
 obtain ⟨v,X,hO,rfl⟩:=hY
 replace hA:Hp w0 ([row wb 163 [v]]::X::R) w:=Hp.part (X:=[row wb 163 [v]]) hA
 have hO0:=hO
 obtain ⟨_,A,c,rfl,hc,hB⟩:=hO.rd (w0:=w0) (R:=[X]) (Nu ..)
 refine aP Tryz.func50 O Tryz.ntmps50 ai (fun a hF=>?_)
 refine wS hF fun K1 hK1=>vX O<|vE hK1<|wT fun K2 hK2=>vX O<|vX O<|vV O (yf 0 O NW O dP O)<|vV O (aU O hA.q O 0 O O jr) fun a hF=>?_
 have hA1:Hp w0 (([]:Seg)::[row wb 163 [.slice A l.length c]]::X::R) w:=Hp.nil hA
 refine ax O (fun K hK=>cO hF O ae rfl hA1 0 O (Buf.nil 5 1) Nq gQ rfl rfl (Bts.src Nq (hB.bts (Hq.sub hA1.q (by simp)))) ag ae (fun v2 X2 w2 a hO2 hF hA3=>hK _ _ ?_))
 replace hA3:Hp w0 (X2::[row wb 163 [.slice A l.length c]]::X::R) w2:=hA3
 rw [List.nil_append,Nat.zero_add] at hO2
 refine vR hF<|vX O<|vE hK2 fun a hF=>?_
 apply wp_ret
 refine aO hF Tryz.results50 O ?_
 exact ⟨_,X2,_,rfl,hO2,⟨_,X,hO0,rfl⟩,Hp.ord [row wb 163 [.slice A l.length c]::X,X2] R [1,0] (Hp.join (Hp.ord [X2,[row wb 163 [.slice A l.length c]],X] R [1,2,0] hA3 O)) O⟩
def bnd (m k:Int):Int:=min (max m 0) k
theorem kw (m k:Int):bnd m k≤k:=by unfold bnd; omega
set_option maxRecDepth 100000 in
set_option maxHeartbeats 1000000 in
theorem jK (w:World) (m k:Int):Calls Tryz.prog 139 #[.int .i64 m,.int .i64 k] w fun e w'=>e= .returned (.int .i64 (bnd m k))∧w=w':=by
 refine aP Tryz.func139 O Tryz.ntmps139 ai (fun a hF=>?_)
 refine wS hF fun K1 hK1=>vX O<|vE hK1<|wT fun K2 hK2=>vX O<|vV O (KU O O O O)<|vX O<|vV O (KT O O O O)<|vX O<|vE hK2 fun a hF=>?_
 apply wp_ret
 refine aO hF Tryz.results139 O ?_
 exact ⟨rfl,rfl⟩
set_option maxRecDepth 100000 in
set_option maxHeartbeats 1000000 in
theorem Aq (w0 w:World) (R:List Seg) (wb:Nat) (l:List UInt8) (Y:Seg) (b:Bool) (hY:WrS wb l Y) (hA:Hp w0 (Y::R) w) (hl:l.length<140737500000000):Calls Tryz.prog 91 #[.pointer (some ⟨wb,0,none⟩),.bool b] w fun e w'=>∃ Y',e= .returned (.tuple #[])∧WrS wb (l++[if b then 1 else 0]) Y'∧Hp w0 (Y'::R) w':=by
 refine aP Tryz.func91 O Tryz.ntmps91 ai (fun a hF=>?_)
 refine wS hF fun K1 hK1=>vX O<|vE hK1<|wQ fun K2 hK2=>wT fun K3 hK3=>vX O<|vE hK3 fun a hF=>?_
 by_cases hb:b=true
 ·subst hb
  refine aG hF O O ?_
  refine wp_region_lit ?_
  refine vR hF<|vX O<|vE hK2 fun a hF=>?_
  refine wp_region_lit ?_
  refine vR hF<|vX O<|vX O fun a hF=>?_
  refine ax O (fun K hK=>ay hF O ae A8 rfl rfl ?_)
  with_reducible refine (fP w0 _ R wb l Y 1 ae 1 O hY hA hl).mono ?_
  rintro e' w1 ⟨Y',rfl,hY',hA2⟩
  refine ⟨_,rfl,fun a hF=>hK _ _ ?_⟩
  replace hA2:Hp w0 (Y'::R) w1:=hA2
  refine aH ?_
  refine gJ hF Tryz.results91 ?_
  exact ⟨_,rfl,hY',hA2⟩
 ·obtain hb:b=false:=by simpa using hb
  subst hb
  refine au hF O O ?_
  apply wp_skip
  refine hK2 _ _ ?_
  refine wp_region_lit ?_
  refine vR hF<|vX O<|vX O fun a hF=>?_
  refine ax O (fun K hK=>ay hF O ae A8 rfl rfl ?_)
  with_reducible refine (fP w0 _ R wb l Y 0 ae 0 O hY hA hl).mono ?_
  rintro e' w3 ⟨Y',rfl,hY',hA4⟩
  refine ⟨_,rfl,fun a hF=>hK _ _ ?_⟩
  replace hA4:Hp w0 (Y'::R) w3:=hA4
  refine aH ?_
  refine gJ hF Tryz.results91 ?_
  exact ⟨_,rfl,hY',hA4⟩
def textE (s:List UInt8) (most:Int):Nat:=if bnd most 65535<(s.length:Int) then 6 else 0
def pJ (s:List UInt8) (most:Int):List UInt8:=if bnd most 65535<(s.length:Int) then [] else be 2 s.length++s
theorem bf (K n:Nat):(be K n).length=K:=by simp [be]
set_option maxRecDepth 100000 in
set_option maxHeartbeats 1000000 in
theorem jY (w0 w:World) (R:List Seg) (wb:Nat) (l:List UInt8) (Y:Seg) (s:List UInt8) (most:Int) (hY:WrS wb l Y) (hA:Hp w0 (Y::R) w) (hl:l.length+s.length<140737499999900):Calls Tryz.prog 76 #[.pointer (some ⟨wb,0,none⟩),aj s,.int .i64 most] w fun e w'=>∃ Y',e= .returned (.int .i64 (textE s most:Nat))∧WrS wb (l++pJ s most) Y'∧Hp w0 (Y'::R) w':=by
 have hbl:=kw most 65535
 refine aP Tryz.func76 O Tryz.ntmps76 ai (fun a hF=>?_)
 refine wS hF fun K1 hK1=>vX O<|vE hK1<|wQ fun K2 hK2=>wT fun K3 hK3=>vX O<|vV O (ik O Nz O (show ((ByteArray.mk s.toArray).size:Int)=(s.length:Int) from rfl)) fun a hF=>?_
 refine vR hF<|vX O fun a hF=>?_
 refine ax O (fun K hK=>ay hF O ae oG rfl rfl ?_)
 with_reducible refine (jK w _ _).mono ?_
 rintro e' w3 ⟨rfl,rfl⟩
 refine ⟨_,rfl,fun a hF=>hK _ _ ?_⟩
 refine vR hF<|vV O (aF O O O O O)<|vE hK3 fun a hF=>?_
 by_cases hlt:bnd most 65535<(s.length:Int)
 ·refine aG hF O (dY ag) ?_
  refine wS hF fun K4 hK4=>vX O<|vE hK4 fun a hF=>?_
  apply wp_ret
  simp only [Exit.then]
  refine aO hF Tryz.results76 O ?_
  exact ⟨Y,by rw [textE,if_pos hlt]; rfl,by rw [pJ,if_pos hlt,List.append_nil]; exact hY,hA⟩
 ·refine au hF O (fE ag) ?_
  apply wp_skip
  refine hK2 _ _ ?_
  refine wS hF fun K5 hK5=>vX O<|vX O<|vV O (ik O Nz O (show ((ByteArray.mk s.toArray).size:Int)=(s.length:Int) from rfl)) fun a hF=>?_
  refine vR hF<|vV O (bW O NC NY O (show IntKind.u16.wrap (s.length:Int)=(s.length:Int) by rw [IntKind.wrap_u16]; omega)) fun a hF=>?_
  refine ax O (fun K hK=>ay hF O ae AU rfl rfl ?_)
  with_reducible refine (gX w0 _ R wb l Y s.length ag _ O hY hA ag).mono ?_
  rintro e' w4 ⟨Y1,rfl,hY,hA5⟩
  refine ⟨_,rfl,fun a hF=>hK _ _ ?_⟩
  replace hA5:Hp w0 (Y1::R) w4:=hA5
  obtain ⟨v,X,hO,rfl⟩:=hY
  have hA6:Hp w0 ([row wb 163 [v]]::X::R) w4:=Hp.part (X:=[row wb 163 [v]]) hA5
  refine aH<|hK5 _ _ ?_
  refine wS hF fun K6 hK6=>vX O<|vX O<|vX O<|vV O (yf 0 O NW O dP O)<|vV O (aU O hA6.q O 0 O O jr)<|vX O fun a hF=>?_
  refine ax O (fun K hK=>cO hF O ae rfl hA6 1 O hO Nq gQ rfl rfl (Src.ofString _ Nz ⟨s.toArray⟩) (by rw [List.length_append,bf,show (ByteArray.mk s.toArray).size=s.length from rfl]; omega) ae (fun v2 X2 w7 a hO2 hF hA8=>hK _ _ ?_))
  refine vR hF<|vX O<|vV O (yf 0 O NW O dP O) fun a hF=>?_
  refine ax O (fun K hK=>aX hF O O hA8 O O 0 O (by simp) hO2.one dP (fun w9 hA10=>hK _ _ ?_))
  replace hA10:Hp w0 ([row wb 163 [v2]]::X2::R) w9:=hA10
  refine aH<|hK6 _ _ ?_
  refine wS hF fun K7 hK7=>vX O<|vE hK7 fun a hF=>?_
  apply wp_ret
  refine aO hF Tryz.results76 O ?_
  replace hO2:Buf 5 1 X2 v2 ((l++be 2 s.length).length+s.length) (dc (l++be 2 s.length)++dc s):=hO2
  rw [← iO,← List.length_append,List.append_assoc] at hO2
  exact ⟨_,by rw [textE,if_neg hlt]; rfl,⟨v2,X2,by rw [pJ,if_neg hlt]; exact hO2,rfl⟩,Hp.join hA10⟩
def zK (s:List UInt8) (most:Int):Nat:=if bnd most 2147483647<(s.length:Int) then 6 else 0
def rZ (s:List UInt8) (most:Int):List UInt8:=if bnd most 2147483647<(s.length:Int) then [] else be 4 s.length++s
set_option maxRecDepth 100000 in
set_option maxHeartbeats 1000000 in
theorem EH (w0 w:World) (R:List Seg) (wb:Nat) (l:List UInt8) (Y:Seg) (s:List UInt8) (A:Option Addr) (c:Nat) (hR:Rd w0 R A s) (most:Int) (hY:WrS wb l Y) (hA:Hp w0 (Y::R) w) (hl:l.length+s.length<140737499999900):Calls Tryz.prog 77 #[.pointer (some ⟨wb,0,none⟩),.slice A s.length c,.int .i64 most] w fun e w'=>∃ Y',e= .returned (.int .i64 (zK s most:Nat))∧WrS wb (l++rZ s most) Y'∧Hp w0 (Y'::R) w':=by
 have hbl:=kw most 2147483647
 refine aP Tryz.func77 O Tryz.ntmps77 ai (fun a hF=>?_)
 refine wS hF fun K1 hK1=>vX O<|vE hK1<|wQ fun K2 hK2=>wT fun K3 hK3=>vX O<|vV O (aT O Nq O O)<|vX O fun a hF=>?_
 refine ax O (fun K hK=>ay hF O ae oG rfl rfl ?_)
 with_reducible refine (jK w _ _).mono ?_
 rintro e' w3 ⟨rfl,rfl⟩
 refine ⟨_,rfl,fun a hF=>hK _ _ ?_⟩
 refine vR hF<|vV O (aF O O O O O)<|vE hK3 fun a hF=>?_
 by_cases hlt:bnd most 2147483647<(s.length:Int)
 ·refine aG hF O (dY ag) ?_
  refine wS hF fun K4 hK4=>vX O<|vE hK4 fun a hF=>?_
  apply wp_ret
  simp only [Exit.then]
  refine aO hF Tryz.results77 O ?_
  exact ⟨Y,by rw [zK,if_pos hlt]; rfl,by rw [rZ,if_pos hlt,List.append_nil]; exact hY,hA⟩
 ·refine au hF O (fE ag) ?_
  apply wp_skip
  refine hK2 _ _ ?_
  refine wS hF fun K5 hK5=>vX O<|vX O<|vV O (aT O Nq O O)<|vV O (bW O NC NZ O (show IntKind.u32.wrap (s.length:Int)=(s.length:Int) by rw [IntKind.wrap_u32]; omega)) fun a hF=>?_
  refine ax O (fun K hK=>ay hF O ae IR rfl rfl ?_)
  with_reducible refine (mQ w0 _ R wb l Y s.length ag _ O hY hA ag).mono ?_
  rintro e' w4 ⟨Y1,rfl,hY,hA5⟩
  refine ⟨_,rfl,fun a hF=>hK _ _ ?_⟩
  replace hA5:Hp w0 (Y1::R) w4:=hA5
  obtain ⟨v,X,hO,rfl⟩:=hY
  have hA6:Hp w0 ([row wb 163 [v]]::X::R) w4:=Hp.part (X:=[row wb 163 [v]]) hA5
  refine aH<|hK5 _ _ ?_
  refine wS hF fun K6 hK6=>vX O<|vX O<|vX O<|vV O (yf 0 O NW O dP O)<|vV O (aU O hA6.q O 0 O O jr)<|vX O fun a hF=>?_
  refine ax O (fun K hK=>cO hF O ae rfl hA6 1 O hO Nq gQ rfl rfl (Rc.src (hR.mono (fun _ h=>Nw _ (Nw _ h))) hA6.q Nq) (by rw [List.length_append,bf]; omega) ae (fun v2 X2 w7 a hO2 hF hA8=>hK _ _ ?_))
  refine vR hF<|vX O<|vV O (yf 0 O NW O dP O) fun a hF=>?_
  refine ax O (fun K hK=>aX hF O O hA8 O O 0 O (by simp) hO2.one dP (fun w9 hA10=>hK _ _ ?_))
  replace hA10:Hp w0 ([row wb 163 [v2]]::X2::R) w9:=hA10
  refine aH<|hK6 _ _ ?_
  refine wS hF fun K7 hK7=>vX O<|vE hK7 fun a hF=>?_
  apply wp_ret
  refine aO hF Tryz.results77 O ?_
  rw [← iO,← List.length_append,List.append_assoc] at hO2
  exact ⟨_,by rw [zK,if_neg hlt]; rfl,⟨v2,X2,by rw [rZ,if_neg hlt]; exact hO2,rfl⟩,Hp.join hA10⟩
set_option maxRecDepth 100000 in
set_option maxHeartbeats 1000000 in
theorem zo (w0 w:World) (R:List Seg) (wb:Nat) (l:List UInt8) (Y:Seg) (pa:Option Addr) (ds:List (List UInt8)) (c:Nat) (hD:Rc w0 R pa (vU ds)) (h32:∀ d∈ds,d.length=32) (hY:WrS wb l Y) (hA:Hp w0 (Y::R) w) (hl:l.length+ds.flatten.length<140737500000000) (hps:ds.length≤9223372036854775807):Calls Tryz.prog 78 #[.pointer (some ⟨wb,0,none⟩),.slice pa ds.length c] w fun e w'=>∃ Y',e= .returned (.tuple #[])∧WrS wb (l++ds.flatten) Y'∧Hp w0 (Y'::R) w':=by
 obtain ⟨v,X,hO,rfl⟩:=hY
 replace hA:Hp w0 ([row wb 163 [v]]::X::R) w:=Hp.part (X:=[row wb 163 [v]]) hA
 refine aP Tryz.func78 O Tryz.ntmps78 ai (fun a hF=>?_)
 refine wS hF fun K1 hK1=>vX O<|vV O (aT O NM O O)<|vX O<|vE hK1<|wBk fun a hF=>?_
 refine bH (G:=Nat) (fun i a x=>∃ (v1:Value) (X1:Seg),i≤ds.length∧Buf 5 1 X1 v1 (l++(ds.take i).flatten).length (dc (l++(ds.take i).flatten))∧Fr 22 [(8,.int .i64 (i:Int)),(0,.pointer (some ⟨wb,0,none⟩)),(6,.slice pa ds.length c),(7,.int .i64 ds.length)] a∧Hp w0 ([row wb 163 [v1]]::X1::R) x) (fun i=>ds.length-i) 0 (⟨v,X,Nl _,by rw [List.take_zero,List.flatten_nil,List.append_nil]; exact hO,hF.keep [8,0,6,7] rfl,hA⟩) ?_
 clear hF
 rintro i a w2 ⟨v1,X1,hi,hO,hF,hA1⟩
 refine wS hF fun K2 hK2=>vV O (aF O O O O O)<|vE hK2<|wQ fun K3 hK3 a hF=>?_
 by_cases hlt:i<ds.length
 ·refine aG hF O (dF ag) ?_
  obtain ⟨q,hp⟩:∃ q,ds[i]? = some q:=⟨_,List.getElem?_eq_getElem hlt⟩
  have hq:=h32 q (List.mem_of_getElem? hp)
  obtain ⟨hat,hle⟩:=flat_at (z:=32) (Ws:=ds.map dc) (V:=dc q) (i:=i) (fun U hU=>by obtain ⟨u,hu,rfl⟩:=List.mem_map.1 hU; rw [aW]; exact h32 u hu) (by rw [List.getElem?_map,hp]; rfl)
  obtain ⟨b,o,rfl,hc⟩:=hD.ne (i:=i*32) (by show i*32<(ds.map dc).flatten.length; omega)
  have hft:(ds.take (i+1)).flatten=(ds.take i).flatten++q:=by rw [List.take_add_one,hp]; simp
  have hfle:((ds.take i).flatten).length+q.length≤ds.flatten.length:=by
   have h2:ds.flatten=(ds.take (i+1)).flatten++(ds.drop (i+1)).flatten:=by rw [← List.flatten_append,List.take_append_drop]
   rw [h2,hft,List.length_append,List.length_append]; omega
  apply wp_skip
  refine hK3 _ _ ?_
  apply wp_seq_k; intro K4 hK4
  apply wp_block
  refine wS hF fun K5 hK5=>vV O (aY O NM zV O O i rfl hlt rfl)<|vV O (dK O (Hq.sub hA1.q (fun _ h=>Nw _ (Nw _ h))) O hc (i*32) hle rfl hat Hm) fun a hF=>?_
  refine ax O (fun K hK=>dC hF O ae rfl hA1 (GG) (fun b3 w4 a hb3 hF hA5=>hK _ _ ?_))
  refine ax O (fun K hK=>bG (new:=dc q) hF O O hA5 O O 0 O (by rw [aW,hq]; rfl) (pq _) zV (fun w6 hA7=>hK _ _ ?_))
  replace hA7:Hp w0 ([row b3 29 (dc q)]::[row wb 163 [v1]]::X1::R) w6:=hA7
  refine aH<|hK5 _ _ ?_
  refine aQ 7 [6,7,8,9] [0,1,2,3,4,5,6,7,8,9] (fun x=>Hq w0 ([row wb 163 [v1]]::R) x) af af (Hq.drew (Hp.qp [[row b3 29 (dc q)],[row wb 163 [v1]],X1] R [1] hA7)) ?_
  have hA8:=Hl.drew hA7
  refine pR hF<|pX O O<|pX O O<|pX O O<|pW O O (fun _=>yf 0 O NW O dP O)<|pV O O (fun x hx=>aU O hx O 0 O O jr)<|pW O O (fun _=>qy O NK iR rfl (.none 0) (.none 32) ag ag jc) fun a hF=>?_
  refine fG O O O (fun K hK=>cO hF O ae rfl hA8 2 O hO Nq gQ rfl rfl ((show Src Tryz.prog 1 27 (.slice (some ⟨b3,0,none⟩) 32 32) 32 (dc q) _ from hq ▸ Rc.src (R:=[row b3 29 (dc q)]::[row wb 163 [v1]]::X1::R) (Rc.ofRow (i:=0) (off:=0) rfl (by rw [List.drop_zero,List.take_length])) hA8.q Nq)) (by rw [List.length_append]; omega) ae (fun v2 X2 w9 a hO2 hF hA10=>hK _ _ (fun _=>?_) ?_))
  ·exact Hp.qp [[row b3 29 (dc q)],[row wb 163 [v1]],X2] R [1] hA10
  replace hA10:Hp w0 ([row b3 29 (dc q)]::[row wb 163 [v1]]::X2::R) w9:=hA10
  refine dG hF O O O O ae _ (aZ O O) (fun h=>absurd h ae) (fun a hF=>?_)
  refine dG hF O O O O ae _ (yf 0 O NW O dP O) (fun h=>absurd h ae) (fun a hF=>?_)
  refine fG O O O (fun K hK=>aX hF O O hA10 O O 1 O (by simp) hO2.one dP (fun w11 hA12=>hK _ _ (fun h=>absurd h ae) ?_))
  replace hA12:Hp w0 ([row b3 29 (dc q)]::[row wb 163 [v2]]::X2::R) w11:=hA12
  refine bI ?_
  refine hK4 _ _ ?_
  refine wp_region_lit ?_
  refine vR hF<|vV O (bT O O O (Np _ ag))<|vX O fun a hF=>?_
  refine aH ?_
  rw [← iO,← hq,← List.length_append,List.append_assoc,← hft] at hO2
  have hA13:Hp w0 ([row wb 163 [v2]]::X2::R) w11:=hpS 3 [1,2] [0] hA12 rfl
  exact ⟨i+1,ag,v2,X2,ag,hO2,hF.keep [8,0,6,7] rfl,hA13⟩
 ·refine au hF O (dE ag) ?_
  obtain rfl:i=ds.length:=by omega
  rw [List.take_length] at hO
  apply wp_exit
  simp only [Exit.then,Exit.inBlock,↓reduceIte]
  refine gJ hF Tryz.results78 ?_
  exact ⟨_,rfl,⟨v1,X1,hO,rfl⟩,Hp.join hA1⟩
def jo (ss:List (List UInt8)) (each:Int) (i:Nat):Nat:=if bnd each 65535<((ss.getD i []).length:Int) then 6 else if 0<i∧bJ .geq (ss.getD (i-1) []) (ss.getD i [])=true then 8 else 0
def ku (f:Nat→Nat):Nat→Nat→Nat
 | _,0=>0
 | i,k+1=>if f i=0 then ku f (i+1) k else f i
theorem pU (f:Nat→Nat) (k i:Nat) (h:ku f i k=0):∀ j,i≤j→j<i+k→f j=0:=by
 induction k generalizing i with
 | zero=>intro j h1 h2; omega
 | succ k ih =>
  intro j h1 h2
  rw [ku] at h
  by_cases h0:f i=0
  ·rw [if_pos h0] at h
   rcases Nat.eq_or_lt_of_le h1 with rfl | h3
   ·exact h0
   ·exact ih (i+1) h j h3 ag
  ·rw [if_neg h0] at h; exact absurd h h0
def jg (ss:List (List UInt8)) (most each:Int):Nat:=if bnd most 65535<(ss.length:Int) then 7 else ku (jo ss each) 0 ss.length
def fJ (ss:List (List UInt8)):List UInt8:=ss.flatMap (fun s=>be 2 s.length++s)
def jh (ss:List (List UInt8)) (most each:Int):List UInt8:=if jg ss most each=0 then be 2 ss.length++fJ ss else []
theorem BM:fJ []=[]:=rfl
theorem qF {ss:List (List UInt8)} {i:Nat} {q:List UInt8} (h:ss[i]? = some q):fJ (ss.take (i+1))=fJ (ss.take i)++(be 2 q.length++q):=by
 unfold fJ
 rw [List.take_add_one,h]
 simp
theorem DF {ss:List (List UInt8)} {i:Nat} {q:List UInt8} (h:ss[i]? = some q):(fJ (ss.take i)).length+q.length+2≤(fJ ss).length:=by
 have h1:=congrArg List.length (qF h)
 have h2:fJ ss=fJ (ss.take (i+1))++fJ (ss.drop (i+1)):=by
  unfold fJ; rw [← List.flatMap_append,List.take_append_drop]
 rw [h2,List.length_append,h1,List.length_append,List.length_append,bf]
 omega
set_option maxRecDepth 100000 in
set_option maxHeartbeats 1000000 in
theorem EG (w0 w:World) (R:List Seg) (wb:Nat) (l:List UInt8) (Y:Seg) (pa:Option Addr) (ss:List (List UInt8)) (c:Nat) (hS:Rc w0 R pa (ss.map aj)) (most each:Int) (hY:WrS wb l Y) (hA:Hp w0 (Y::R) w) (hl:l.length+2+(fJ ss).length<140737499999800) (hps:ss.length≤9223372036854775807):Calls Tryz.prog 106 #[.pointer (some ⟨wb,0,none⟩),.slice pa ss.length c,.int .i64 most,.int .i64 each] w fun e w'=>∃ Y',e= .returned (.int .i64 (jg ss most each:Nat))∧WrS wb (l++jh ss most each) Y'∧Hp w0 (Y'::R) w':=by
 have hbm:=kw most 65535
 have hbe:=kw each 65535
 refine aP Tryz.func106 O Tryz.ntmps106 ai (fun a hF=>?_)
 refine wS hF fun K1 hK1=>vX O<|vE hK1<|wQ fun K2 hK2=>wT fun K3 hK3=>vX O<|vV O (aT O Nk O O)<|vX O fun a hF=>?_
 refine ax O (fun K hK=>ay hF O ae oG rfl rfl ?_)
 with_reducible refine (jK w _ _).mono ?_
 rintro e' w3 ⟨rfl,rfl⟩
 refine ⟨_,rfl,fun a hF=>hK _ _ ?_⟩
 refine vR hF<|vV O (aF O O O O O)<|vE hK3 fun a hF=>?_
 by_cases h7:bnd most 65535<(ss.length:Int)
 ·refine aG hF O (dY ag) ?_
  refine wS hF fun K4 hK4=>vX O<|vE hK4 fun a hF=>?_
  apply wp_ret
  simp only [Exit.then]
  refine aO hF Tryz.results106 O ?_
  exact ⟨Y,by rw [jg,if_pos h7]; rfl,by rw [jh,jg,if_pos h7,if_neg ae,List.append_nil]; exact hY,hA⟩
 ·refine au hF O (fE ag) ?_
  have hE:jg ss most each=ku (jo ss each) 0 ss.length:=by rw [jg,if_neg h7]
  apply wp_skip
  refine hK2 _ _ ?_
  apply wp_seq_k; intro K5 hK5
  refine wS hF fun K6 hK6=>vX O<|vV O (aT O Nk O O)<|vX O<|vE hK6<|wBk fun a hF=>?_
  refine bH (G:=Nat) (fun i a x=>i≤ss.length∧jg ss most each=ku (jo ss each) i (ss.length-i)∧Fr 57 [(20,.int .i64 (i:Int)),(0,.pointer (some ⟨wb,0,none⟩)),(1,.slice pa ss.length c),(2,.int .i64 most),(3,.int .i64 each),(18,.slice pa ss.length c),(19,.int .i64 ss.length)] a∧Hp w0 (Y::R) x) (fun i=>ss.length-i) 0 (⟨Nl _,hE,hF.keep [20,0,1,2,3,18,19] rfl,hA⟩) ?_
  clear hF
  rintro i a w5 ⟨hi,hE,hF,hA4⟩
  refine wS hF fun K7 hK7=>vV O (aF O O O O O)<|vE hK7<|wQ fun K8 hK8 a hF=>?_
  by_cases hlt:i<ss.length
  ·refine aG hF O (dF ag) ?_
   obtain ⟨q,hp⟩:∃ q,ss[i]? = some q:=⟨_,List.getElem?_eq_getElem hlt⟩
   obtain ⟨b,o,rfl,hc⟩:=hS.ne (i:=i) (by rw [List.length_map]; exact hlt)
   have hq:ss.getD i []=q:=by rw [List.getD_eq_getElem?_getD,hp]; rfl
   rw [show ss.length-i=(ss.length-(i+1))+1 by omega,ku,jo,hq] at hE
   apply wp_skip
   refine hK8 _ _ ?_
   apply wp_seq_k; intro K9 hK9
   apply wp_block
   refine wS hF fun K10 hK10=>vX O<|vV O (aY O Nk uB O O i rfl hlt (ad2 _ _ _))<|vV O (bV (u:=aj q) rfl (Hq.sub hA4.q (fun _ h=>Nw _ h)) O hc i (by rw [List.length_map]; exact hlt) rfl (by rw [List.getElem?_map,hp]; rfl) uU) fun a hF=>?_
   refine vR hF<|vX O<|vX O<|vE hK10<|wQ fun K11 hK11=>wT fun K12 hK12=>vX O<|vV O (ik O Nz O (show ((ByteArray.mk (q).toArray).size:Int)=((q).length:Int) from rfl)) fun a hF=>?_
   refine vR hF<|vX O fun a hF=>?_
   refine ax O (fun K hK=>ay hF O ae oG rfl rfl ?_)
   with_reducible refine (jK w5 _ _).mono ?_
   rintro e' w8 ⟨rfl,rfl⟩
   refine ⟨_,rfl,fun a hF=>hK _ _ ?_⟩
   refine vR hF<|vV O (aF O O O O O)<|vE hK12 fun a hF=>?_
   by_cases h6:bnd each 65535<(q.length:Int)
   ·refine aG hF O (dY ag) ?_
    refine wS hF fun K13 hK13=>vX O<|vE hK13 fun a hF=>?_
    apply wp_ret
    simp only [Exit.then,Exit.inBlock]
    refine aO hF Tryz.results106 O ?_
    rw [if_pos h6,if_neg ae] at hE
    exact ⟨Y,by rw [hE]; rfl,by rw [jh,hE,if_neg ae,List.append_nil]; exact hY,hA4⟩
   ·refine au hF O (fE ag) ?_
    rw [if_neg h6] at hE
    by_cases hi0:i=0
    ·rw [if_neg (show ¬(0<i∧_) from fun h=>by omega)] at hE
     rw [if_pos rfl] at hE
     apply wp_skip
     refine hK11 _ _ ?_
     refine wS hF fun K14 hK14=>vX O<|vV O (aF O O O O (fE ag))<|vX O<|vS O<|vS O<|vS O<|vS O<|vS O<|vS O<|vS O<|vV O (bP O O O)<|vE hK14<|vF1 O fun a hF=>?_
     apply wp_skip
     refine hK9 _ _ ?_
     refine wp_region_lit ?_
     refine vR hF<|vV O (bT O O O (Np _ ag))<|vX O fun a hF=>?_
     refine aH ?_
     exact ⟨i+1,ag,ag,hE,hF.keep [20,0,1,2,3,18,19] rfl,hA4⟩
    ·obtain ⟨q0,hp0⟩:∃ q0,ss[i-1]? = some q0:=⟨_,List.getElem?_eq_getElem ag⟩
     have hq0:ss.getD (i-1) []=q0:=by rw [List.getD_eq_getElem?_getD,hp0]; rfl
     rw [hq0] at hE
     by_cases hge:bJ .geq q0 q=true
     ·apply wp_skip
      refine hK11 _ _ ?_
      refine wS hF fun K15 hK15=>vX O<|vV O (aF O O O O (dY ag))<|vX O<|vG O (aV O O)<|vG O (aV O O)<|vG O (eu O O O (Np _ ag))<|vG O (aY O Nk uB O O (i-1) ag ag (ad2 _ _ _))<|vG O (bV (u:=aj q0) rfl (Hq.sub hA4.q (fun _ h=>Nw _ h)) O hc (i-1) (by rw [List.length_map]; omega) rfl (by rw [List.getElem?_map,hp0]; rfl) uU) fun a hF=>?_
      refine vR hF<|vG O (aV O O)<|vG O (fA O O O O (hge))<|vV O (bP O O O)<|vE hK15<|vT1 O<|wT fun K16 hK16=>vX O<|vE hK16 fun a hF=>?_
      apply wp_ret
      simp only [Exit.then,Exit.inBlock]
      refine aO hF Tryz.results106 O ?_
      rw [if_pos (show 0<i∧bJ .geq q0 q=true from ⟨ ag,hge⟩),if_neg ae] at hE
      exact ⟨Y,by rw [hE]; rfl,by rw [jh,hE,if_neg ae,List.append_nil]; exact hY,hA4⟩
     ·replace hge:bJ .geq q0 q=false:=by simpa using hge
      rw [if_neg (show ¬(0<i∧bJ .geq q0 q=true) from fun h=>by rw [hge] at h; exact absurd h.2 ae)] at hE
      rw [if_pos rfl] at hE
      apply wp_skip
      refine hK11 _ _ ?_
      refine wS hF fun K17 hK17=>vX O<|vV O (aF O O O O (dY ag))<|vX O<|vG O (aV O O)<|vG O (aV O O)<|vG O (eu O O O (Np _ ag))<|vG O (aY O Nk uB O O (i-1) ag ag (ad2 _ _ _))<|vG O (bV (u:=aj q0) rfl (Hq.sub hA4.q (fun _ h=>Nw _ h)) O hc (i-1) (by rw [List.length_map]; omega) rfl (by rw [List.getElem?_map,hp0]; rfl) uU) fun a hF=>?_
      refine vR hF<|vG O (aV O O)<|vG O (fA O O O O (hge))<|vV O (bP O O O)<|vE hK17<|vF1 O fun a hF=>?_
      apply wp_skip
      refine hK9 _ _ ?_
      refine wp_region_lit ?_
      refine vR hF<|vV O (bT O O O (Np _ ag))<|vX O fun a hF=>?_
      refine aH ?_
      exact ⟨i+1,ag,ag,hE,hF.keep [20,0,1,2,3,18,19] rfl,hA4⟩
  ·refine au hF O (dE ag) ?_
   obtain rfl:i=ss.length:=by omega
   rw [Nat.sub_self,ku] at hE
   have hall:∀ j,j<ss.length→jo ss each j=0:=fun j hj=>by
    have h1:=hE
    rw [jg,if_neg h7] at h1
    exact pU _ _ _ h1 j (Nl _) ag
   have hsmall:∀ (j:Nat) (q:List UInt8),ss[j]? = some q→q.length≤65535:=fun j q hj=>by
    have h1:=hall j (List.getElem?_eq_some_iff.1 hj).1
    have h2:ss.getD j []=q:=by rw [List.getD_eq_getElem?_getD,hj]; rfl
    rw [jo,h2] at h1
    by_cases h3:bnd each 65535<(q.length:Int)
    ·rw [if_pos h3] at h1; exact absurd h1 ae
    ·omega
   apply wp_exit
   refine hK5 _ _ ?_
   refine wS hF fun K18 hK18=>vX O<|vX O<|vV O (aT O Nk O O)<|vV O (bW O NC NY O (show IntKind.u16.wrap (ss.length:Int)=(ss.length:Int) by rw [IntKind.wrap_u16]; omega)) fun a hF=>?_
   refine ax O (fun K hK=>ay hF O ae AU rfl rfl ?_)
   with_reducible refine (gX w0 _ R wb l Y ss.length ag _ O hY hA4 ag).mono ?_
   rintro e' w9 ⟨Y1,rfl,hY,hA10⟩
   refine ⟨_,rfl,fun a hF=>hK _ _ ?_⟩
   replace hA10:Hp w0 (Y1::R) w9:=hA10
   refine aH<|hK18 _ _ ?_
   apply wp_seq_k; intro K19 hK19
   refine wS hF fun K20 hK20=>vX O<|vV O (aT O Nk O O)<|vX O<|vE hK20<|wBk fun a hF=>?_
   refine bH (G:=Nat) (fun i a x=>∃ (Y2:Seg),i≤ss.length∧WrS wb (l++be 2 ss.length++fJ (ss.take i)) Y2∧Fr 57 [(49,.int .i64 (i:Int)),(0,.pointer (some ⟨wb,0,none⟩)),(47,.slice pa ss.length c),(48,.int .i64 ss.length)] a∧Hp w0 (Y2::R) x) (fun i=>ss.length-i) 0 (⟨Y1,Nl _,by rw [List.take_zero,BM,List.append_nil]; exact hY,hF.keep [49,0,47,48] rfl,hA10⟩) ?_
   clear hF
   rintro i a w12 ⟨Y2,hi,hY,hF,hA11⟩
   refine wS hF fun K21 hK21=>vV O (aF O O O O O)<|vE hK21<|wQ fun K22 hK22 a hF=>?_
   by_cases hlt:i<ss.length
   ·refine aG hF O (dF ag) ?_
    obtain ⟨q,hp⟩:∃ q,ss[i]? = some q:=⟨_,List.getElem?_eq_getElem hlt⟩
    obtain ⟨b,o,rfl,hc⟩:=hS.ne (i:=i) (by rw [List.length_map]; exact hlt)
    have hq:=hsmall i q hp
    have hft:=qF hp
    have hfle:=DF hp
    have hT0:pJ q 65535=be 2 q.length++q:=by rw [pJ,if_neg (by unfold bnd; omega)]
    apply wp_skip
    refine hK22 _ _ ?_
    apply wp_seq_k; intro K23 hK23
    apply wp_block
    refine wS hF fun K24 hK24=>vV O (aY O Nk uB O O i rfl hlt (ad2 _ _ _))<|vV O (bV (u:=aj q) rfl (Hq.sub hA11.q (fun _ h=>Nw _ h)) O hc i (by rw [List.length_map]; exact hlt) rfl (by rw [List.getElem?_map,hp]; rfl) uU) fun a hF=>?_
    refine vR hF<|vX O<|vE hK24 fun a hF=>?_
    refine wp_region_lit ?_
    refine vR hF<|vX O<|vX O fun a hF=>?_
    refine ax O (fun K hK=>ay hF O ae Ja rfl rfl ?_)
    with_reducible refine (jY w0 _ R wb _ _ q 65535 hY hA11 (by rw [List.length_append,List.length_append,bf]; omega)).mono ?_
    rintro e' w13 ⟨Y3,rfl,hY,hA14⟩
    refine ⟨_,rfl,fun a hF=>hK _ _ ?_⟩
    replace hA14:Hp w0 (Y3::R) w13:=hA14
    refine aH<|hK23 _ _ ?_
    refine wp_region_lit ?_
    refine vR hF<|vV O (bT O O O (Np _ ag))<|vX O fun a hF=>?_
    refine aH ?_
    rw [hT0,List.append_assoc,List.append_assoc,← hft,← List.append_assoc] at hY
    exact ⟨i+1,ag,Y3,ag,hY,hF.keep [49,0,47,48] rfl,hA14⟩
   ·refine au hF O (dE ag) ?_
    obtain rfl:i=ss.length:=by omega
    rw [List.take_length,List.append_assoc] at hY
    apply wp_exit
    refine hK19 _ _ ?_
    refine wS hF fun K25 hK25=>vX O<|vE hK25 fun a hF=>?_
    apply wp_ret
    refine aO hF Tryz.results106 O ?_
    exact ⟨Y2,by rw [hE]; rfl,by rw [jh,if_pos hE]; exact hY,hA11⟩
end Go.Proofs.YtepbmdlgdaedpaaGreatDoor
