/- The walks of octet's Reader. -/
import Derived.Test.YtepbmdlgdaedpaaGreatDoorOctetW
/- The walks of octet's Reader. -/
namespace Go.Proofs.YtepbmdlgdaedpaaGreatDoor
open Go.RowKit Go.Dk
theorem jZ:bi Tryz.prog 3=true:=af
theorem eG:bi Tryz.prog 40=true:=af
theorem Eg (A:Option Addr) (n c:Nat) (w:World):(Instr.build 152 #[(0,.slice A n c)]).run Tryz.prog w= .ok (.agg #[.slice A n c,.int .i64 0,.int .i64 0]) w:=af
def num (l:List UInt8):Nat:=l.foldl (fun n c=>n*256+c.toNat) 0
theorem qV (l:List UInt8) (c:UInt8):num (l++[c])=num l*256+c.toNat:=by simp [num]
theorem nH {l:List UInt8} {i:Nat} (h:i<l.length):num (l.take (i+1))=num (l.take i)*256+(bAt l i).toNat:=by
 rw [List.take_add_one,List.getElem?_eq_getElem h,Option.toList_some,qV]
 simp [bAt,h]
theorem lJ (l:List UInt8):num l<256 ^ l.length:=by
 suffices h:∀ n,n<256 ^ n→num l<256 ^ l.length by
  exact h 0 ae
 intro _ _
 have key:∀ (m:Nat) (l:List UInt8),l.length=m→num l<256 ^ m:=by
  intro m
  induction m with
  | zero=>intro l hl; rw [List.length_eq_zero_iff.1 hl]; decide
  | succ m ih =>
   intro l hl
   obtain ⟨l',c,rfl⟩:∃ l' c,l=l'++[c]:=⟨l.dropLast,l.getLast (by intro e; rw [e] at hl; cases hl),(List.dropLast_concat_getLast _).symm⟩
   have h1:=ih l' (by simpa using hl)
   have h2:=c.toNat_lt
   rw [qV,Nat.pow_succ]
   omega
 exact key _ l rfl
def jf (K:Nat) (l:List UInt8) (p:Nat):Bool:=decide (p+K≤l.length)
def ahN (K:Nat) (l:List UInt8) (p:Nat):Nat:=if p+K≤l.length then num ((l.drop p).take K) else 0
def jQ (K:Nat) (l:List UInt8) (p:Nat):Nat:=if p+K≤l.length then p+K else p
def tkN (K:Nat) (l:List UInt8) (p y:Nat):Nat:=if y=0 then ahN K l p else 0
def tkP (K:Nat) (l:List UInt8) (p y:Nat):Nat:=if y=0 then jQ K l p else p
def tkY (K:Nat) (l:List UInt8) (p y:Nat):Nat:=if y=0 then (if p+K≤l.length then 0 else 8) else y
def flB (l:List UInt8) (p y:Nat):Bool:=y == 0 && ahN 1 l p == 1
def vM (l:List UInt8) (p:Nat):Bool:=jf 1 l p && decide (ahN 1 l p≤1)
def flP (l:List UInt8) (p y:Nat):Nat:=if y=0∧vM l p=true then p+1 else p
def flY (l:List UInt8) (p y:Nat):Nat:=if y=0 then (if vM l p=true then 0 else 8) else y
theorem uN (n:Nat) (h:n<72057594037927936):IntKind.u64.wrap ((n:Int)*2 ^ min ((8:Int)).toNat IntKind.u64.bits)=((n*256:Nat):Int):=by
 rw [show min ((8:Int)).toNat IntKind.u64.bits=8 by decide,IntKind.wrap_u64]; omega
theorem Ae (n:Nat) (c:UInt8) (h:n<72057594037927936):bits .or .u64 ((n*256:Nat):Int) (c.toNat:Int)=((n*256+c.toNat:Nat):Int):=by
 have h2:=c.toNat_lt
 rw [u64_or_nat _ _ ag ag]
 congr 1
 have h3:=Nat.shiftLeft_add_eq_or_of_lt (a:=n) (i:=8) (b:=c.toNat) ag
 rw [Nat.shiftLeft_eq] at h3
 exact h3.symm
theorem iL {l:List UInt8} {i K:Nat} (h:i<K) (hK:K≤8):num (l.take i)<72057594037927936:=by
 have h1:=lJ (l.take i)
 have h2:(l.take i).length≤7:=by rw [List.length_take]; omega
 exact Nat.lt_of_lt_of_le h1 (Nat.le_trans (Nat.pow_le_pow_right ae h2) ae)
theorem gZ:(Tryz.prog.info? 3).map (·.size)=some 1:=af
theorem jq:(Tryz.prog.info? 27).map (·.size)=some 1:=af
theorem dO:(Tryz.prog.info? 40).map (·.size)=some 1:=af
theorem Bc:aK Tryz.prog 52:=⟨_,Tryz.func52,af,af⟩
theorem ou:aK Tryz.prog 96:=⟨_,Tryz.func96,af,af⟩
theorem oh:aK Tryz.prog 97:=⟨_,Tryz.func97,af,af⟩
theorem AQ:aK Tryz.prog 98:=⟨_,Tryz.func98,af,af⟩
theorem F8:aK Tryz.prog 137:=⟨_,Tryz.func137,af,af⟩
theorem F6:aK Tryz.prog 138:=⟨_,Tryz.func138,af,af⟩
theorem yE:aK Tryz.prog 140:=⟨_,Tryz.func140,af,af⟩
theorem FX:aK Tryz.prog 145:=⟨_,Tryz.func145,af,af⟩
theorem FU:aK Tryz.prog 152:=⟨_,Tryz.func152,af,af⟩
set_option maxRecDepth 100000 in
set_option maxHeartbeats 1000000 in
theorem jC (w0 w:World) (rb:Nat) (R:List Row) (A:Option Addr) (l:List UInt8) (c p y:Nat) (e:Nat) (z:Int) (hz:z=e) (hw:At w0 ((rb,152,[.slice A l.length c,.int .i64 (p:Int),.int .i64 (y:Int)])::R) w):Calls Tryz.prog 97 #[.pointer (some ⟨rb,0,none⟩),.int .i64 z] w fun e' w'=>e'= .returned (.tuple #[])∧At w0 ((rb,152,[.slice A l.length c,.int .i64 (p:Int),.int .i64 ((if y=0 then e else y:Nat):Int)])::R) w':=by
 subst hz
 by_cases hy:y=0
 ·subst hy
  rw [if_pos rfl]
  refine aP Tryz.func97 O Tryz.ntmps97 ai (fun a hF=>?_)
  refine wS hF fun K1 hK1=>vX O<|vX O<|vV O (yf 2 O N7 O dO O)<|vV O (bQ O hw rfl 0 O O eG)<|vV O (aF (c:=true) rfl rfl rfl rfl rfl)<|vE hK1<|vT1 O fun a hF=>?_
  refine wp_region_lit ?_
  refine vR hF<|vX O<|vX O<|vX O<|vV O (yf 2 O N7 O dO O) fun a hF=>?_
  refine ax O (fun K hK=>jA hF O O hw rfl rfl 0 O (by simp) rfl dO (fun w2 hA2=>hK _ _ ?_))
  replace hA2:At w0 ((rb,152,[.slice A l.length c,.int .i64 (p:Int),.int .i64 (e:Int)])::R) w2:=hA2
  refine aH ?_
  refine gJ hF Tryz.results97 ?_
  exact ⟨rfl,hA2⟩
 ·rw [if_neg hy]
  refine aP Tryz.func97 O Tryz.ntmps97 ai (fun a hF=>?_)
  refine wS hF fun K2 hK2=>vX O<|vX O<|vV O (yf 2 O N7 O dO O)<|vV O (bQ O hw rfl 0 O O eG)<|vV O (aF (c:=false) rfl rfl rfl rfl (bU ag))<|vE hK2<|vF1 O fun a hF=>?_
  apply wp_skip
  refine gJ hF Tryz.results97 ?_
  exact ⟨rfl,hw⟩
set_option maxRecDepth 100000 in
set_option maxHeartbeats 1000000 in
theorem iw (w0 w:World) (rb:Nat) (R:List Row) (A:Option Addr) (l:List UInt8) (c p y:Nat) (q:Nat) (hB:∀ (v:List Value) (x:World),At w0 ((rb,152,v)::R) x→Bts x A l) (hc:l.length≤c) (hw:At w0 ((rb,152,[.slice A l.length c,.int .i64 (p:Int),.int .i64 (y:Int)])::R) w) (hl:l.length<140737488354000) (hq:q≤l.length):Calls Tryz.prog 96 #[.pointer (some ⟨rb,0,none⟩),.int .i64 (q:Int)] w fun e w'=>e= .returned (.tuple #[.int .u8 (ahN 1 l q:Int),.int .i64 (jQ 1 l q:Int),.bool (jf 1 l q)])∧w=w':=by
 refine aP Tryz.func96 O Tryz.ntmps96 ai (fun a hF=>?_)
 refine wS hF fun K1 hK1=>vX O<|vX O<|vX O<|vE hK1 fun a hF=>?_
 refine wp_seq_k fun K2 hK2=>wp_region_lit ?_
 refine ax O (fun K hK=>ay hF O ae F8 rfl rfl ?_)
 with_reducible refine (lI w).mono ?_
 rintro e' w' ⟨rfl,rfl⟩
 refine ⟨_,rfl,fun a hF=>hK _ _ ?_⟩
 refine vR hF<|vX O<|vE hK2<|wQ fun K3 hK3=>wT fun K4 hK4=>vX O<|vX O<|vX O<|vV O (yf 0 O N7 O jq O)<|vV O (bQ O hw rfl 0 O O jr)<|vV O (aT O Nq O O)<|vX O<|vV O (eu O O O (Np _ ag))<|vV O (aF O O O O O)<|vE hK4 fun a hF=>?_
 by_cases hgt:¬(q+1≤l.length)
 ·refine aG hF O (dY ag) ?_
  refine wS hF fun K5 hK5=>vX O<|vX O<|vX O<|vX O<|vE hK5 fun a hF=>?_
  apply wp_ret
  simp only [Exit.then]
  refine iG hF Tryz.results96 O O O ?_
  exact ⟨by rw [ahN,jQ,jf,if_neg hgt,if_neg hgt,decide_eq_false hgt]; rfl,rfl⟩
 ·refine au hF O (fE ag) ?_
  have hml:((l.drop q).take 1).length=1:=by rw [List.length_take,List.length_drop]; omega
  have hnum:=lJ ((l.drop q).take 1)
  rw [hml] at hnum
  obtain ⟨b,o,hAd,_,hcell⟩:=((hB _ _ hw).drop q hc).take 1 (by intro e; rw [e] at hml; cases hml)
  rw [hml] at hcell
  apply wp_skip
  refine hK3 _ _ ?_
  refine wS hF fun K6 hK6=>vX O<|vE hK6<|wQ fun K7 hK7=>wT fun K8 hK8=>vX O<|vX O<|vV O (yf 0 O N7 O jq O)<|vV O (bQ O hw rfl 0 O O jr)<|vX O<|vX O<|vX O<|vV O (bT O O O (show IntKind.i64.wrap ((q:Int)+1)=((q+1:Nat):Int) by rw [Np _ ag]; omega)) fun a hF=>?_
  refine vR hF<|vV O (dW O Nq iR rfl (.some rfl rfl) (.some rfl rfl) (Nat.le_add_right _ _) ag (show Value.slice (sub A q c 1) (q+1-q) (c-q)= .slice (some ⟨b,o,none⟩) 1 (c-q) by rw [hAd,Nat.add_sub_cancel_left])) fun a hF=>?_
  refine vR hF<|vV O (aT O Nq O O)<|vX O<|vE hK8<|wBk fun a hF=>?_
  refine bH (G:=Nat) (fun i a x=>i≤1∧Fr 47 [(32,.int .i64 (i:Int)),(30,.slice (some ⟨b,o,none⟩) 1 (c-q)),(31,.int .i64 1),(8,.int .u64 (num (((l.drop q).take 1).take i):Int)),(0,.pointer (some ⟨rb,0,none⟩)),(1,.int .i64 (q:Int)),(7,.int .i64 1)] a∧x=w) (fun i=>1-i) 0 ⟨Nl _,hF.keep [32,30,31,8,0,1,7] rfl,rfl⟩ ?_
  clear hF
  rintro i a wr ⟨hi,hF,hx⟩
  subst hx
  by_cases hik:i<1
  ·refine wS hF fun K9 hK9=>vV O (aF O O O O O)<|vE hK9<|wQ fun K10 hK10 a hF=>?_
   refine aG hF O (dF ag) ?_
   apply wp_skip
   refine hK10 _ _ ?_
   apply wp_seq_k; intro K11 hK11
   apply wp_block
   refine wS hF fun K12 hK12=>vV O (aY O Nq iR rfl rfl i rfl ag (ad2 _ _ _))<|vV O (nC O O (hcell i ag) af)<|vX O<|vE hK12 fun a hF=>?_
   refine wp_region_lit ?_
   refine vR hF<|vX O<|vV O (zT O O O ae (uN _ (iL hik ae)))<|vX O<|vV O (bW O NI NJ O (show IntKind.u64.wrap ((bAt ((l.drop q).take 1) i).toNat:Int)=((bAt ((l.drop q).take 1) i).toNat:Int) by have:=(bAt ((l.drop q).take 1) i).toNat_lt; rw [IntKind.wrap_u64]; omega)) fun a hF=>?_
   refine vR hF<|vV O (GI O O O (Ae _ _ (iL hik ae)))<|vX O fun a hF=>aH<|hK11 _ _ ?_
   refine wp_region_lit ?_
   refine vR hF<|vV O (bT O O O (Np _ ag))<|vX O fun a hF=>?_
   refine aH ?_
   rw [← nH ag] at hF
   exact ⟨i+1,ag,ag,hF.keep [32,30,31,8,0,1,7] rfl,rfl⟩
  ·obtain rfl:i=1:=by omega
   rw [Ny (Nat.le_of_eq hml)] at hF
   refine wS hF fun K13 hK13=>vV O (aF O O O O O)<|vE hK13<|wQ fun K14 hK14 a hF=>?_
   refine au hF O (dE ag) ?_
   apply wp_exit
   refine hK7 _ _ ?_
   refine wS hF fun K15 hK15=>vX O<|vV O (bW O NJ NI O (show IntKind.u8.wrap (num ((l.drop q).take 1):Int)=(num ((l.drop q).take 1):Int) by rw [IntKind.wrap_u8]; omega)) fun a hF=>?_
   refine vR hF<|vX O<|vX O<|vV O (bT O O O (show IntKind.i64.wrap ((q:Int)+1)=((q+1:Nat):Int) by rw [Np _ ag]; omega)) fun a hF=>?_
   refine vR hF<|vX O<|vX O<|vX O<|vE hK15 fun a hF=>?_
   apply wp_ret
   refine iG hF Tryz.results96 O O O ?_
   have hle:q+1≤l.length:=by omega
   exact ⟨by rw [ahN,jQ,jf,if_pos hle,if_pos hle,decide_eq_true hle],rfl⟩
set_option maxRecDepth 100000 in
set_option maxHeartbeats 1000000 in
theorem sH (w0 w:World) (rb:Nat) (R:List Row) (A:Option Addr) (l:List UInt8) (c p y:Nat) (hB:∀ (v:List Value) (x:World),At w0 ((rb,152,v)::R) x→Bts x A l) (hc:l.length≤c) (hw:At w0 ((rb,152,[.slice A l.length c,.int .i64 (p:Int),.int .i64 (y:Int)])::R) w) (hp:p≤l.length) (hl:l.length<140737488354000):Calls Tryz.prog 32 #[.pointer (some ⟨rb,0,none⟩)] w fun e w'=>e= .returned (.int .u8 (tkN 1 l p y:Int))∧At w0 ((rb,152,[.slice A l.length c,.int .i64 ((tkP 1 l p y:Nat):Int),.int .i64 ((tkY 1 l p y:Nat):Int)])::R) w':=by
 by_cases hy:y=0
 ·subst hy
  by_cases hle:p+1≤l.length
  ·rw [show tkN 1 l p 0=ahN 1 l p from rfl,show tkP 1 l p 0=p+1 from if_pos hle,show tkY 1 l p 0=0 from if_pos hle]
   refine aP Tryz.func32 O Tryz.ntmps32 ai (fun a hF=>?_)
   refine wS hF fun K1 hK1=>vX O<|vE hK1<|wQ fun K2 hK2=>wT fun K3 hK3=>vX O<|vV O (gy O af rfl rfl)<|vX O<|vG O (aV O O)<|vG O (aZ O O)<|vG O (yf 2 O N7 O dO O)<|vG O (bQ O hw rfl 0 O O eG)<|vG O (aF (c:=false) rfl rfl rfl rfl (fK rfl))<|vV O (bP O O O)<|vE hK3<|vF1 O<|wKp hK2<|wT fun K4 hK4=>vX O<|vX O<|vX O<|vV O (yf 1 O N7 O gZ O)<|vV O (bQ O hw rfl 0 O O jZ) fun a hF=>?_
   refine ax O (fun K hK=>ay hF O ae ou rfl rfl ?_)
   with_reducible refine (iw w0 w rb R A l c p 0 p hB hc hw hl hp).mono ?_
   rintro e' w' ⟨rfl,rfl⟩
   refine ⟨_,rfl,fun a hF=>hK _ _ ?_⟩
   refine vR hF<|vX O<|vV O (aN O O O)<|vV O (aN O O O)<|vV O (aN O O O)<|vX O<|vX O<|vX O<|vE hK4<|wQ fun K5 hK5=>wT fun K6 hK6=>vX O<|vV O (dm O O O)<|vE hK6 fun a hF=>?_
   refine au hF O (by rw [jf,decide_eq_true hle]; rfl) ?_
   have hto:jQ 1 l p=p+1:=if_pos hle
   rw [hto] at hF
   apply wp_skip
   refine hK5 _ _ ?_
   refine wS hF fun K7 hK7=>vX O<|vX O<|vX O<|vV O (yf 1 O N7 O gZ O) fun a hF=>?_
   refine ax O (fun K hK=>jA hF O O hw rfl rfl 0 O (by simp) rfl gZ (fun w2 hA2=>hK _ _ ?_))
   replace hA2:At w0 ((rb,152,[.slice A l.length c,.int .i64 ((p+1:Nat):Int),.int .i64 (0:Int)])::R) w2:=hA2
   refine aH<|hK7 _ _ ?_
   refine wS hF fun K8 hK8=>vX O<|vX O<|vE hK8 fun a hF=>?_
   apply wp_ret
   refine aO hF Tryz.results32 O ?_
   exact ⟨rfl,hA2⟩
  ·rw [show tkN 1 l p 0=0 from if_neg hle,show tkP 1 l p 0=p from if_neg hle,show tkY 1 l p 0=8 from if_neg hle]
   refine aP Tryz.func32 O Tryz.ntmps32 ai (fun a hF=>?_)
   refine wS hF fun K9 hK9=>vX O<|vE hK9<|wQ fun K10 hK10=>wT fun K11 hK11=>vX O<|vV O (gy O af rfl rfl)<|vX O<|vG O (aV O O)<|vG O (aZ O O)<|vG O (yf 2 O N7 O dO O)<|vG O (bQ O hw rfl 0 O O eG)<|vG O (aF (c:=false) rfl rfl rfl rfl (fK rfl))<|vV O (bP O O O)<|vE hK11<|vF1 O<|wKp hK10<|wT fun K12 hK12=>vX O<|vX O<|vX O<|vV O (yf 1 O N7 O gZ O)<|vV O (bQ O hw rfl 0 O O jZ) fun a hF=>?_
   refine ax O (fun K hK=>ay hF O ae ou rfl rfl ?_)
   with_reducible refine (iw w0 w rb R A l c p 0 p hB hc hw hl hp).mono ?_
   rintro e' w' ⟨rfl,rfl⟩
   refine ⟨_,rfl,fun a hF=>hK _ _ ?_⟩
   refine vR hF<|vX O<|vV O (aN O O O)<|vV O (aN O O O)<|vV O (aN O O O)<|vX O<|vX O<|vX O<|vE hK12<|wQ fun K13 hK13=>wT fun K14 hK14=>vX O<|vV O (dm O O O)<|vE hK14 fun a hF=>?_
   refine aG hF O (by rw [jf,decide_eq_false hle]; rfl) ?_
   refine wS hF fun K15 hK15=>vX O fun a hF=>?_
   refine ax O (fun K hK=>ay hF O ae oh rfl rfl ?_)
   with_reducible refine (jC w0 w rb R A l c p 0 8 8 O hw).mono ?_
   rintro e' w2 ⟨rfl,hA2⟩
   refine ⟨_,rfl,fun a hF=>hK _ _ ?_⟩
   rw [if_pos rfl] at hA2
   refine aH<|hK15 _ _ ?_
   refine wS hF fun K16 hK16=>vX O<|vE hK16 fun a hF=>?_
   apply wp_ret
   simp only [Exit.then]
   refine aO hF Tryz.results32 O ?_
   exact ⟨rfl,hA2⟩
 ·rw [show tkN 1 l p y=0 from if_neg hy,show tkP 1 l p y=p from if_neg hy,show tkY 1 l p y=y from if_neg hy]
  refine aP Tryz.func32 O Tryz.ntmps32 ai (fun a hF=>?_)
  refine wS hF fun K17 hK17=>vX O<|vE hK17<|wQ fun K18 hK18=>wT fun K19 hK19=>vX O<|vV O (gy O af rfl rfl)<|vX O<|vG O (aV O O)<|vG O (aZ O O)<|vG O (yf 2 O N7 O dO O)<|vG O (bQ O hw rfl 0 O O eG)<|vG O (aF (c:=true) rfl rfl rfl rfl (iF ag))<|vV O (bP O O O)<|vE hK19<|vT1 O<|wT fun K20 hK20=>vX O<|vE hK20 fun a hF=>?_
  apply wp_ret
  simp only [Exit.then]
  refine aO hF Tryz.results32 O ?_
  exact ⟨rfl,hw⟩
set_option maxRecDepth 100000 in
set_option maxHeartbeats 1000000 in
theorem ji (w0 w:World) (rb:Nat) (R:List Row) (A:Option Addr) (l:List UInt8) (c p y:Nat) (q:Nat) (hB:∀ (v:List Value) (x:World),At w0 ((rb,152,v)::R) x→Bts x A l) (hc:l.length≤c) (hw:At w0 ((rb,152,[.slice A l.length c,.int .i64 (p:Int),.int .i64 (y:Int)])::R) w) (hl:l.length<140737488354000) (hq:q≤l.length):Calls Tryz.prog 98 #[.pointer (some ⟨rb,0,none⟩),.int .i64 (q:Int)] w fun e w'=>e= .returned (.tuple #[.int .u16 (ahN 2 l q:Int),.int .i64 (jQ 2 l q:Int),.bool (jf 2 l q)])∧w=w':=by
 refine aP Tryz.func98 O Tryz.ntmps98 ai (fun a hF=>?_)
 refine wS hF fun K1 hK1=>vX O<|vX O<|vX O<|vE hK1 fun a hF=>?_
 refine wp_seq_k fun K2 hK2=>wp_region_lit ?_
 refine ax O (fun K hK=>ay hF O ae FX rfl rfl ?_)
 with_reducible refine (lg w).mono ?_
 rintro e' w' ⟨rfl,rfl⟩
 refine ⟨_,rfl,fun a hF=>hK _ _ ?_⟩
 refine vR hF<|vX O<|vE hK2<|wQ fun K3 hK3=>wT fun K4 hK4=>vX O<|vX O<|vX O<|vV O (yf 0 O N7 O jq O)<|vV O (bQ O hw rfl 0 O O jr)<|vV O (aT O Nq O O)<|vX O<|vV O (eu O O O (Np _ ag))<|vV O (aF O O O O O)<|vE hK4 fun a hF=>?_
 by_cases hgt:¬(q+2≤l.length)
 ·refine aG hF O (dY ag) ?_
  refine wS hF fun K5 hK5=>vX O<|vX O<|vX O<|vX O<|vE hK5 fun a hF=>?_
  apply wp_ret
  simp only [Exit.then]
  refine iG hF Tryz.results98 O O O ?_
  exact ⟨by rw [ahN,jQ,jf,if_neg hgt,if_neg hgt,decide_eq_false hgt]; rfl,rfl⟩
 ·refine au hF O (fE ag) ?_
  have hml:((l.drop q).take 2).length=2:=by rw [List.length_take,List.length_drop]; omega
  have hnum:=lJ ((l.drop q).take 2)
  rw [hml] at hnum
  obtain ⟨b,o,hAd,_,hcell⟩:=((hB _ _ hw).drop q hc).take 2 (by intro e; rw [e] at hml; cases hml)
  rw [hml] at hcell
  apply wp_skip
  refine hK3 _ _ ?_
  refine wS hF fun K6 hK6=>vX O<|vE hK6<|wQ fun K7 hK7=>wT fun K8 hK8=>vX O<|vX O<|vV O (yf 0 O N7 O jq O)<|vV O (bQ O hw rfl 0 O O jr)<|vX O<|vX O<|vX O<|vV O (bT O O O (show IntKind.i64.wrap ((q:Int)+2)=((q+2:Nat):Int) by rw [Np _ ag]; omega)) fun a hF=>?_
  refine vR hF<|vV O (dW O Nq iR rfl (.some rfl rfl) (.some rfl rfl) (Nat.le_add_right _ _) ag (show Value.slice (sub A q c 1) (q+2-q) (c-q)= .slice (some ⟨b,o,none⟩) 2 (c-q) by rw [hAd,Nat.add_sub_cancel_left])) fun a hF=>?_
  refine vR hF<|vV O (aT O Nq O O)<|vX O<|vE hK8<|wBk fun a hF=>?_
  refine bH (G:=Nat) (fun i a x=>i≤2∧Fr 47 [(32,.int .i64 (i:Int)),(30,.slice (some ⟨b,o,none⟩) 2 (c-q)),(31,.int .i64 2),(8,.int .u64 (num (((l.drop q).take 2).take i):Int)),(0,.pointer (some ⟨rb,0,none⟩)),(1,.int .i64 (q:Int)),(7,.int .i64 2)] a∧x=w) (fun i=>2-i) 0 ⟨Nl _,hF.keep [32,30,31,8,0,1,7] rfl,rfl⟩ ?_
  clear hF
  rintro i a wr ⟨hi,hF,hx⟩
  subst hx
  by_cases hik:i<2
  ·refine wS hF fun K9 hK9=>vV O (aF O O O O O)<|vE hK9<|wQ fun K10 hK10 a hF=>?_
   refine aG hF O (dF ag) ?_
   apply wp_skip
   refine hK10 _ _ ?_
   apply wp_seq_k; intro K11 hK11
   apply wp_block
   refine wS hF fun K12 hK12=>vV O (aY O Nq iR rfl rfl i rfl ag (ad2 _ _ _))<|vV O (nC O O (hcell i ag) af)<|vX O<|vE hK12 fun a hF=>?_
   refine wp_region_lit ?_
   refine vR hF<|vX O<|vV O (zT O O O ae (uN _ (iL hik ae)))<|vX O<|vV O (bW O NI NJ O (show IntKind.u64.wrap ((bAt ((l.drop q).take 2) i).toNat:Int)=((bAt ((l.drop q).take 2) i).toNat:Int) by have:=(bAt ((l.drop q).take 2) i).toNat_lt; rw [IntKind.wrap_u64]; omega)) fun a hF=>?_
   refine vR hF<|vV O (GI O O O (Ae _ _ (iL hik ae)))<|vX O fun a hF=>aH<|hK11 _ _ ?_
   refine wp_region_lit ?_
   refine vR hF<|vV O (bT O O O (Np _ ag))<|vX O fun a hF=>?_
   refine aH ?_
   rw [← nH ag] at hF
   exact ⟨i+1,ag,ag,hF.keep [32,30,31,8,0,1,7] rfl,rfl⟩
  ·obtain rfl:i=2:=by omega
   rw [Ny (Nat.le_of_eq hml)] at hF
   refine wS hF fun K13 hK13=>vV O (aF O O O O O)<|vE hK13<|wQ fun K14 hK14 a hF=>?_
   refine au hF O (dE ag) ?_
   apply wp_exit
   refine hK7 _ _ ?_
   refine wS hF fun K15 hK15=>vX O<|vV O (bW O NJ NY O (show IntKind.u16.wrap (num ((l.drop q).take 2):Int)=(num ((l.drop q).take 2):Int) by rw [IntKind.wrap_u16]; omega)) fun a hF=>?_
   refine vR hF<|vX O<|vX O<|vV O (bT O O O (show IntKind.i64.wrap ((q:Int)+2)=((q+2:Nat):Int) by rw [Np _ ag]; omega)) fun a hF=>?_
   refine vR hF<|vX O<|vX O<|vX O<|vE hK15 fun a hF=>?_
   apply wp_ret
   refine iG hF Tryz.results98 O O O ?_
   have hle:q+2≤l.length:=by omega
   exact ⟨by rw [ahN,jQ,jf,if_pos hle,if_pos hle,decide_eq_true hle],rfl⟩
set_option maxRecDepth 100000 in
set_option maxHeartbeats 1000000 in
theorem qU (w0 w:World) (rb:Nat) (R:List Row) (A:Option Addr) (l:List UInt8) (c p y:Nat) (hB:∀ (v:List Value) (x:World),At w0 ((rb,152,v)::R) x→Bts x A l) (hc:l.length≤c) (hw:At w0 ((rb,152,[.slice A l.length c,.int .i64 (p:Int),.int .i64 (y:Int)])::R) w) (hp:p≤l.length) (hl:l.length<140737488354000):Calls Tryz.prog 33 #[.pointer (some ⟨rb,0,none⟩)] w fun e w'=>e= .returned (.int .u16 (tkN 2 l p y:Int))∧At w0 ((rb,152,[.slice A l.length c,.int .i64 ((tkP 2 l p y:Nat):Int),.int .i64 ((tkY 2 l p y:Nat):Int)])::R) w':=by
 by_cases hy:y=0
 ·subst hy
  by_cases hle:p+2≤l.length
  ·rw [show tkN 2 l p 0=ahN 2 l p from rfl,show tkP 2 l p 0=p+2 from if_pos hle,show tkY 2 l p 0=0 from if_pos hle]
   refine aP Tryz.func33 O Tryz.ntmps33 ai (fun a hF=>?_)
   refine wS hF fun K1 hK1=>vX O<|vE hK1<|wQ fun K2 hK2=>wT fun K3 hK3=>vX O<|vV O (gy O af rfl rfl)<|vX O<|vG O (aV O O)<|vG O (aZ O O)<|vG O (yf 2 O N7 O dO O)<|vG O (bQ O hw rfl 0 O O eG)<|vG O (aF (c:=false) rfl rfl rfl rfl (fK rfl))<|vV O (bP O O O)<|vE hK3<|vF1 O<|wKp hK2<|wT fun K4 hK4=>vX O<|vX O<|vX O<|vV O (yf 1 O N7 O gZ O)<|vV O (bQ O hw rfl 0 O O jZ) fun a hF=>?_
   refine ax O (fun K hK=>ay hF O ae AQ rfl rfl ?_)
   with_reducible refine (ji w0 w rb R A l c p 0 p hB hc hw hl hp).mono ?_
   rintro e' w' ⟨rfl,rfl⟩
   refine ⟨_,rfl,fun a hF=>hK _ _ ?_⟩
   refine vR hF<|vX O<|vV O (aN O O O)<|vV O (aN O O O)<|vV O (aN O O O)<|vX O<|vX O<|vX O<|vE hK4<|wQ fun K5 hK5=>wT fun K6 hK6=>vX O<|vV O (dm O O O)<|vE hK6 fun a hF=>?_
   refine au hF O (by rw [jf,decide_eq_true hle]; rfl) ?_
   have hto:jQ 2 l p=p+2:=if_pos hle
   rw [hto] at hF
   apply wp_skip
   refine hK5 _ _ ?_
   refine wS hF fun K7 hK7=>vX O<|vX O<|vX O<|vV O (yf 1 O N7 O gZ O) fun a hF=>?_
   refine ax O (fun K hK=>jA hF O O hw rfl rfl 0 O (by simp) rfl gZ (fun w2 hA2=>hK _ _ ?_))
   replace hA2:At w0 ((rb,152,[.slice A l.length c,.int .i64 ((p+2:Nat):Int),.int .i64 (0:Int)])::R) w2:=hA2
   refine aH<|hK7 _ _ ?_
   refine wS hF fun K8 hK8=>vX O<|vX O<|vE hK8 fun a hF=>?_
   apply wp_ret
   refine aO hF Tryz.results33 O ?_
   exact ⟨rfl,hA2⟩
  ·rw [show tkN 2 l p 0=0 from if_neg hle,show tkP 2 l p 0=p from if_neg hle,show tkY 2 l p 0=8 from if_neg hle]
   refine aP Tryz.func33 O Tryz.ntmps33 ai (fun a hF=>?_)
   refine wS hF fun K9 hK9=>vX O<|vE hK9<|wQ fun K10 hK10=>wT fun K11 hK11=>vX O<|vV O (gy O af rfl rfl)<|vX O<|vG O (aV O O)<|vG O (aZ O O)<|vG O (yf 2 O N7 O dO O)<|vG O (bQ O hw rfl 0 O O eG)<|vG O (aF (c:=false) rfl rfl rfl rfl (fK rfl))<|vV O (bP O O O)<|vE hK11<|vF1 O<|wKp hK10<|wT fun K12 hK12=>vX O<|vX O<|vX O<|vV O (yf 1 O N7 O gZ O)<|vV O (bQ O hw rfl 0 O O jZ) fun a hF=>?_
   refine ax O (fun K hK=>ay hF O ae AQ rfl rfl ?_)
   with_reducible refine (ji w0 w rb R A l c p 0 p hB hc hw hl hp).mono ?_
   rintro e' w' ⟨rfl,rfl⟩
   refine ⟨_,rfl,fun a hF=>hK _ _ ?_⟩
   refine vR hF<|vX O<|vV O (aN O O O)<|vV O (aN O O O)<|vV O (aN O O O)<|vX O<|vX O<|vX O<|vE hK12<|wQ fun K13 hK13=>wT fun K14 hK14=>vX O<|vV O (dm O O O)<|vE hK14 fun a hF=>?_
   refine aG hF O (by rw [jf,decide_eq_false hle]; rfl) ?_
   refine wS hF fun K15 hK15=>vX O fun a hF=>?_
   refine ax O (fun K hK=>ay hF O ae oh rfl rfl ?_)
   with_reducible refine (jC w0 w rb R A l c p 0 8 8 O hw).mono ?_
   rintro e' w2 ⟨rfl,hA2⟩
   refine ⟨_,rfl,fun a hF=>hK _ _ ?_⟩
   rw [if_pos rfl] at hA2
   refine aH<|hK15 _ _ ?_
   refine wS hF fun K16 hK16=>vX O<|vE hK16 fun a hF=>?_
   apply wp_ret
   simp only [Exit.then]
   refine aO hF Tryz.results33 O ?_
   exact ⟨rfl,hA2⟩
 ·rw [show tkN 2 l p y=0 from if_neg hy,show tkP 2 l p y=p from if_neg hy,show tkY 2 l p y=y from if_neg hy]
  refine aP Tryz.func33 O Tryz.ntmps33 ai (fun a hF=>?_)
  refine wS hF fun K17 hK17=>vX O<|vE hK17<|wQ fun K18 hK18=>wT fun K19 hK19=>vX O<|vV O (gy O af rfl rfl)<|vX O<|vG O (aV O O)<|vG O (aZ O O)<|vG O (yf 2 O N7 O dO O)<|vG O (bQ O hw rfl 0 O O eG)<|vG O (aF (c:=true) rfl rfl rfl rfl (iF ag))<|vV O (bP O O O)<|vE hK19<|vT1 O<|wT fun K20 hK20=>vX O<|vE hK20 fun a hF=>?_
  apply wp_ret
  simp only [Exit.then]
  refine aO hF Tryz.results33 O ?_
  exact ⟨rfl,hw⟩
set_option maxRecDepth 100000 in
set_option maxHeartbeats 1000000 in
theorem qf (w0 w:World) (rb:Nat) (R:List Row) (A:Option Addr) (l:List UInt8) (c p y:Nat) (q:Nat) (hB:∀ (v:List Value) (x:World),At w0 ((rb,152,v)::R) x→Bts x A l) (hc:l.length≤c) (hw:At w0 ((rb,152,[.slice A l.length c,.int .i64 (p:Int),.int .i64 (y:Int)])::R) w) (hl:l.length<140737488354000) (hq:q≤l.length):Calls Tryz.prog 142 #[.pointer (some ⟨rb,0,none⟩),.int .i64 (q:Int)] w fun e w'=>e= .returned (.tuple #[.int .u32 (ahN 4 l q:Int),.int .i64 (jQ 4 l q:Int),.bool (jf 4 l q)])∧w=w':=by
 refine aP Tryz.func142 O Tryz.ntmps142 ai (fun a hF=>?_)
 refine wS hF fun K1 hK1=>vX O<|vX O<|vX O<|vE hK1 fun a hF=>?_
 refine wp_seq_k fun K2 hK2=>wp_region_lit ?_
 refine ax O (fun K hK=>ay hF O ae FU rfl rfl ?_)
 with_reducible refine (kZ w).mono ?_
 rintro e' w' ⟨rfl,rfl⟩
 refine ⟨_,rfl,fun a hF=>hK _ _ ?_⟩
 refine vR hF<|vX O<|vE hK2<|wQ fun K3 hK3=>wT fun K4 hK4=>vX O<|vX O<|vX O<|vV O (yf 0 O N7 O jq O)<|vV O (bQ O hw rfl 0 O O jr)<|vV O (aT O Nq O O)<|vX O<|vV O (eu O O O (Np _ ag))<|vV O (aF O O O O O)<|vE hK4 fun a hF=>?_
 by_cases hgt:¬(q+4≤l.length)
 ·refine aG hF O (dY ag) ?_
  refine wS hF fun K5 hK5=>vX O<|vX O<|vX O<|vX O<|vE hK5 fun a hF=>?_
  apply wp_ret
  simp only [Exit.then]
  refine iG hF Tryz.results142 O O O ?_
  exact ⟨by rw [ahN,jQ,jf,if_neg hgt,if_neg hgt,decide_eq_false hgt]; rfl,rfl⟩
 ·refine au hF O (fE ag) ?_
  have hml:((l.drop q).take 4).length=4:=by rw [List.length_take,List.length_drop]; omega
  have hnum:=lJ ((l.drop q).take 4)
  rw [hml] at hnum
  obtain ⟨b,o,hAd,_,hcell⟩:=((hB _ _ hw).drop q hc).take 4 (by intro e; rw [e] at hml; cases hml)
  rw [hml] at hcell
  apply wp_skip
  refine hK3 _ _ ?_
  refine wS hF fun K6 hK6=>vX O<|vE hK6<|wQ fun K7 hK7=>wT fun K8 hK8=>vX O<|vX O<|vV O (yf 0 O N7 O jq O)<|vV O (bQ O hw rfl 0 O O jr)<|vX O<|vX O<|vX O<|vV O (bT O O O (show IntKind.i64.wrap ((q:Int)+4)=((q+4:Nat):Int) by rw [Np _ ag]; omega)) fun a hF=>?_
  refine vR hF<|vV O (dW O Nq iR rfl (.some rfl rfl) (.some rfl rfl) (Nat.le_add_right _ _) ag (show Value.slice (sub A q c 1) (q+4-q) (c-q)= .slice (some ⟨b,o,none⟩) 4 (c-q) by rw [hAd,Nat.add_sub_cancel_left])) fun a hF=>?_
  refine vR hF<|vV O (aT O Nq O O)<|vX O<|vE hK8<|wBk fun a hF=>?_
  refine bH (G:=Nat) (fun i a x=>i≤4∧Fr 47 [(32,.int .i64 (i:Int)),(30,.slice (some ⟨b,o,none⟩) 4 (c-q)),(31,.int .i64 4),(8,.int .u64 (num (((l.drop q).take 4).take i):Int)),(0,.pointer (some ⟨rb,0,none⟩)),(1,.int .i64 (q:Int)),(7,.int .i64 4)] a∧x=w) (fun i=>4-i) 0 ⟨Nl _,hF.keep [32,30,31,8,0,1,7] rfl,rfl⟩ ?_
  clear hF
  rintro i a wr ⟨hi,hF,hx⟩
  subst hx
  by_cases hik:i<4
  ·refine wS hF fun K9 hK9=>vV O (aF O O O O O)<|vE hK9<|wQ fun K10 hK10 a hF=>?_
   refine aG hF O (dF ag) ?_
   apply wp_skip
   refine hK10 _ _ ?_
   apply wp_seq_k; intro K11 hK11
   apply wp_block
   refine wS hF fun K12 hK12=>vV O (aY O Nq iR rfl rfl i rfl ag (ad2 _ _ _))<|vV O (nC O O (hcell i ag) af)<|vX O<|vE hK12 fun a hF=>?_
   refine wp_region_lit ?_
   refine vR hF<|vX O<|vV O (zT O O O ae (uN _ (iL hik ae)))<|vX O<|vV O (bW O NI NJ O (show IntKind.u64.wrap ((bAt ((l.drop q).take 4) i).toNat:Int)=((bAt ((l.drop q).take 4) i).toNat:Int) by have:=(bAt ((l.drop q).take 4) i).toNat_lt; rw [IntKind.wrap_u64]; omega)) fun a hF=>?_
   refine vR hF<|vV O (GI O O O (Ae _ _ (iL hik ae)))<|vX O fun a hF=>aH<|hK11 _ _ ?_
   refine wp_region_lit ?_
   refine vR hF<|vV O (bT O O O (Np _ ag))<|vX O fun a hF=>?_
   refine aH ?_
   rw [← nH ag] at hF
   exact ⟨i+1,ag,ag,hF.keep [32,30,31,8,0,1,7] rfl,rfl⟩
  ·obtain rfl:i=4:=by omega
   rw [Ny (Nat.le_of_eq hml)] at hF
   refine wS hF fun K13 hK13=>vV O (aF O O O O O)<|vE hK13<|wQ fun K14 hK14 a hF=>?_
   refine au hF O (dE ag) ?_
   apply wp_exit
   refine hK7 _ _ ?_
   refine wS hF fun K15 hK15=>vX O<|vV O (bW O NJ NZ O (show IntKind.u32.wrap (num ((l.drop q).take 4):Int)=(num ((l.drop q).take 4):Int) by rw [IntKind.wrap_u32]; omega)) fun a hF=>?_
   refine vR hF<|vX O<|vX O<|vV O (bT O O O (show IntKind.i64.wrap ((q:Int)+4)=((q+4:Nat):Int) by rw [Np _ ag]; omega)) fun a hF=>?_
   refine vR hF<|vX O<|vX O<|vX O<|vE hK15 fun a hF=>?_
   apply wp_ret
   refine iG hF Tryz.results142 O O O ?_
   have hle:q+4≤l.length:=by omega
   exact ⟨by rw [ahN,jQ,jf,if_pos hle,if_pos hle,decide_eq_true hle],rfl⟩
set_option maxRecDepth 100000 in
set_option maxHeartbeats 1000000 in
theorem lh (w0 w:World) (rb:Nat) (R:List Row) (A:Option Addr) (l:List UInt8) (c p y:Nat) (q:Nat) (hB:∀ (v:List Value) (x:World),At w0 ((rb,152,v)::R) x→Bts x A l) (hc:l.length≤c) (hw:At w0 ((rb,152,[.slice A l.length c,.int .i64 (p:Int),.int .i64 (y:Int)])::R) w) (hl:l.length<140737488354000) (hq:q≤l.length):Calls Tryz.prog 140 #[.pointer (some ⟨rb,0,none⟩),.int .i64 (q:Int)] w fun e w'=>e= .returned (.tuple #[.int .u64 (ahN 8 l q:Int),.int .i64 (jQ 8 l q:Int),.bool (jf 8 l q)])∧w=w':=by
 refine aP Tryz.func140 O Tryz.ntmps140 ai (fun a hF=>?_)
 refine wS hF fun K1 hK1=>vX O<|vX O<|vX O<|vE hK1 fun a hF=>?_
 refine wp_seq_k fun K2 hK2=>wp_region_lit ?_
 refine ax O (fun K hK=>ay hF O ae F6 rfl rfl ?_)
 with_reducible refine (kY w).mono ?_
 rintro e' w' ⟨rfl,rfl⟩
 refine ⟨_,rfl,fun a hF=>hK _ _ ?_⟩
 refine vR hF<|vX O<|vE hK2<|wQ fun K3 hK3=>wT fun K4 hK4=>vX O<|vX O<|vX O<|vV O (yf 0 O N7 O jq O)<|vV O (bQ O hw rfl 0 O O jr)<|vV O (aT O Nq O O)<|vX O<|vV O (eu O O O (Np _ ag))<|vV O (aF O O O O O)<|vE hK4 fun a hF=>?_
 by_cases hgt:¬(q+8≤l.length)
 ·refine aG hF O (dY ag) ?_
  refine wS hF fun K5 hK5=>vX O<|vX O<|vX O<|vX O<|vE hK5 fun a hF=>?_
  apply wp_ret
  simp only [Exit.then]
  refine iG hF Tryz.results140 O O O ?_
  exact ⟨by rw [ahN,jQ,jf,if_neg hgt,if_neg hgt,decide_eq_false hgt]; rfl,rfl⟩
 ·refine au hF O (fE ag) ?_
  have hml:((l.drop q).take 8).length=8:=by rw [List.length_take,List.length_drop]; omega
  have hnum:=lJ ((l.drop q).take 8)
  rw [hml] at hnum
  obtain ⟨b,o,hAd,_,hcell⟩:=((hB _ _ hw).drop q hc).take 8 (by intro e; rw [e] at hml; cases hml)
  rw [hml] at hcell
  apply wp_skip
  refine hK3 _ _ ?_
  refine wS hF fun K6 hK6=>vX O<|vE hK6<|wQ fun K7 hK7=>wT fun K8 hK8=>vX O<|vX O<|vV O (yf 0 O N7 O jq O)<|vV O (bQ O hw rfl 0 O O jr)<|vX O<|vX O<|vX O<|vV O (bT O O O (show IntKind.i64.wrap ((q:Int)+8)=((q+8:Nat):Int) by rw [Np _ ag]; omega)) fun a hF=>?_
  refine vR hF<|vV O (dW O Nq iR rfl (.some rfl rfl) (.some rfl rfl) (Nat.le_add_right _ _) ag (show Value.slice (sub A q c 1) (q+8-q) (c-q)= .slice (some ⟨b,o,none⟩) 8 (c-q) by rw [hAd,Nat.add_sub_cancel_left])) fun a hF=>?_
  refine vR hF<|vV O (aT O Nq O O)<|vX O<|vE hK8<|wBk fun a hF=>?_
  refine bH (G:=Nat) (fun i a x=>i≤8∧Fr 46 [(32,.int .i64 (i:Int)),(30,.slice (some ⟨b,o,none⟩) 8 (c-q)),(31,.int .i64 8),(8,.int .u64 (num (((l.drop q).take 8).take i):Int)),(0,.pointer (some ⟨rb,0,none⟩)),(1,.int .i64 (q:Int)),(7,.int .i64 8)] a∧x=w) (fun i=>8-i) 0 ⟨Nl _,hF.keep [32,30,31,8,0,1,7] rfl,rfl⟩ ?_
  clear hF
  rintro i a wr ⟨hi,hF,hx⟩
  subst hx
  by_cases hik:i<8
  ·refine wS hF fun K9 hK9=>vV O (aF O O O O O)<|vE hK9<|wQ fun K10 hK10 a hF=>?_
   refine aG hF O (dF ag) ?_
   apply wp_skip
   refine hK10 _ _ ?_
   apply wp_seq_k; intro K11 hK11
   apply wp_block
   refine wS hF fun K12 hK12=>vV O (aY O Nq iR rfl rfl i rfl ag (ad2 _ _ _))<|vV O (nC O O (hcell i ag) af)<|vX O<|vE hK12 fun a hF=>?_
   refine wp_region_lit ?_
   refine vR hF<|vX O<|vV O (zT O O O ae (uN _ (iL hik ae)))<|vX O<|vV O (bW O NI NJ O (show IntKind.u64.wrap ((bAt ((l.drop q).take 8) i).toNat:Int)=((bAt ((l.drop q).take 8) i).toNat:Int) by have:=(bAt ((l.drop q).take 8) i).toNat_lt; rw [IntKind.wrap_u64]; omega)) fun a hF=>?_
   refine vR hF<|vV O (GI O O O (Ae _ _ (iL hik ae)))<|vX O fun a hF=>aH<|hK11 _ _ ?_
   refine wp_region_lit ?_
   refine vR hF<|vV O (bT O O O (Np _ ag))<|vX O fun a hF=>?_
   refine aH ?_
   rw [← nH ag] at hF
   exact ⟨i+1,ag,ag,hF.keep [32,30,31,8,0,1,7] rfl,rfl⟩
  ·obtain rfl:i=8:=by omega
   rw [Ny (Nat.le_of_eq hml)] at hF
   refine wS hF fun K13 hK13=>vV O (aF O O O O O)<|vE hK13<|wQ fun K14 hK14 a hF=>?_
   refine au hF O (dE ag) ?_
   apply wp_exit
   refine hK7 _ _ ?_
   refine wS hF fun K15 hK15=>vX O<|vX O<|vX O<|vV O (bT O O O (show IntKind.i64.wrap ((q:Int)+8)=((q+8:Nat):Int) by rw [Np _ ag]; omega)) fun a hF=>?_
   refine vR hF<|vX O<|vX O<|vX O<|vE hK15 fun a hF=>?_
   apply wp_ret
   refine iG hF Tryz.results140 O O O ?_
   have hle:q+8≤l.length:=by omega
   exact ⟨by rw [ahN,jQ,jf,if_pos hle,if_pos hle,decide_eq_true hle],rfl⟩
set_option maxRecDepth 100000 in
set_option maxHeartbeats 1000000 in
theorem qR (w0 w:World) (rb:Nat) (R:List Row) (A:Option Addr) (l:List UInt8) (c p y:Nat) (hB:∀ (v:List Value) (x:World),At w0 ((rb,152,v)::R) x→Bts x A l) (hc:l.length≤c) (hw:At w0 ((rb,152,[.slice A l.length c,.int .i64 (p:Int),.int .i64 (y:Int)])::R) w) (hp:p≤l.length) (hl:l.length<140737488354000):Calls Tryz.prog 80 #[.pointer (some ⟨rb,0,none⟩)] w fun e w'=>e= .returned (.int .u64 (tkN 8 l p y:Int))∧At w0 ((rb,152,[.slice A l.length c,.int .i64 ((tkP 8 l p y:Nat):Int),.int .i64 ((tkY 8 l p y:Nat):Int)])::R) w':=by
 by_cases hy:y=0
 ·subst hy
  by_cases hle:p+8≤l.length
  ·rw [show tkN 8 l p 0=ahN 8 l p from rfl,show tkP 8 l p 0=p+8 from if_pos hle,show tkY 8 l p 0=0 from if_pos hle]
   refine aP Tryz.func80 O Tryz.ntmps80 ai (fun a hF=>?_)
   refine wS hF fun K1 hK1=>vX O<|vE hK1<|wQ fun K2 hK2=>wT fun K3 hK3=>vX O<|vV O (gy O af rfl rfl)<|vX O<|vG O (aV O O)<|vG O (aZ O O)<|vG O (yf 2 O N7 O dO O)<|vG O (bQ O hw rfl 0 O O eG)<|vG O (aF (c:=false) rfl rfl rfl rfl (fK rfl))<|vV O (bP O O O)<|vE hK3<|vF1 O<|wKp hK2<|wT fun K4 hK4=>vX O<|vX O<|vX O<|vV O (yf 1 O N7 O gZ O)<|vV O (bQ O hw rfl 0 O O jZ) fun a hF=>?_
   refine ax O (fun K hK=>ay hF O ae yE rfl rfl ?_)
   with_reducible refine (lh w0 w rb R A l c p 0 p hB hc hw hl hp).mono ?_
   rintro e' w' ⟨rfl,rfl⟩
   refine ⟨_,rfl,fun a hF=>hK _ _ ?_⟩
   refine vR hF<|vX O<|vV O (aN O O O)<|vV O (aN O O O)<|vV O (aN O O O)<|vX O<|vX O<|vX O<|vE hK4<|wQ fun K5 hK5=>wT fun K6 hK6=>vX O<|vV O (dm O O O)<|vE hK6 fun a hF=>?_
   refine au hF O (by rw [jf,decide_eq_true hle]; rfl) ?_
   have hto:jQ 8 l p=p+8:=if_pos hle
   rw [hto] at hF
   apply wp_skip
   refine hK5 _ _ ?_
   refine wS hF fun K7 hK7=>vX O<|vX O<|vX O<|vV O (yf 1 O N7 O gZ O) fun a hF=>?_
   refine ax O (fun K hK=>jA hF O O hw rfl rfl 0 O (by simp) rfl gZ (fun w2 hA2=>hK _ _ ?_))
   replace hA2:At w0 ((rb,152,[.slice A l.length c,.int .i64 ((p+8:Nat):Int),.int .i64 (0:Int)])::R) w2:=hA2
   refine aH<|hK7 _ _ ?_
   refine wS hF fun K8 hK8=>vX O<|vX O<|vE hK8 fun a hF=>?_
   apply wp_ret
   refine aO hF Tryz.results80 O ?_
   exact ⟨rfl,hA2⟩
  ·rw [show tkN 8 l p 0=0 from if_neg hle,show tkP 8 l p 0=p from if_neg hle,show tkY 8 l p 0=8 from if_neg hle]
   refine aP Tryz.func80 O Tryz.ntmps80 ai (fun a hF=>?_)
   refine wS hF fun K9 hK9=>vX O<|vE hK9<|wQ fun K10 hK10=>wT fun K11 hK11=>vX O<|vV O (gy O af rfl rfl)<|vX O<|vG O (aV O O)<|vG O (aZ O O)<|vG O (yf 2 O N7 O dO O)<|vG O (bQ O hw rfl 0 O O eG)<|vG O (aF (c:=false) rfl rfl rfl rfl (fK rfl))<|vV O (bP O O O)<|vE hK11<|vF1 O<|wKp hK10<|wT fun K12 hK12=>vX O<|vX O<|vX O<|vV O (yf 1 O N7 O gZ O)<|vV O (bQ O hw rfl 0 O O jZ) fun a hF=>?_
   refine ax O (fun K hK=>ay hF O ae yE rfl rfl ?_)
   with_reducible refine (lh w0 w rb R A l c p 0 p hB hc hw hl hp).mono ?_
   rintro e' w' ⟨rfl,rfl⟩
   refine ⟨_,rfl,fun a hF=>hK _ _ ?_⟩
   refine vR hF<|vX O<|vV O (aN O O O)<|vV O (aN O O O)<|vV O (aN O O O)<|vX O<|vX O<|vX O<|vE hK12<|wQ fun K13 hK13=>wT fun K14 hK14=>vX O<|vV O (dm O O O)<|vE hK14 fun a hF=>?_
   refine aG hF O (by rw [jf,decide_eq_false hle]; rfl) ?_
   refine wS hF fun K15 hK15=>vX O fun a hF=>?_
   refine ax O (fun K hK=>ay hF O ae oh rfl rfl ?_)
   with_reducible refine (jC w0 w rb R A l c p 0 8 8 O hw).mono ?_
   rintro e' w2 ⟨rfl,hA2⟩
   refine ⟨_,rfl,fun a hF=>hK _ _ ?_⟩
   rw [if_pos rfl] at hA2
   refine aH<|hK15 _ _ ?_
   refine wS hF fun K16 hK16=>vX O<|vE hK16 fun a hF=>?_
   apply wp_ret
   simp only [Exit.then]
   refine aO hF Tryz.results80 O ?_
   exact ⟨rfl,hA2⟩
 ·rw [show tkN 8 l p y=0 from if_neg hy,show tkP 8 l p y=p from if_neg hy,show tkY 8 l p y=y from if_neg hy]
  refine aP Tryz.func80 O Tryz.ntmps80 ai (fun a hF=>?_)
  refine wS hF fun K17 hK17=>vX O<|vE hK17<|wQ fun K18 hK18=>wT fun K19 hK19=>vX O<|vV O (gy O af rfl rfl)<|vX O<|vG O (aV O O)<|vG O (aZ O O)<|vG O (yf 2 O N7 O dO O)<|vG O (bQ O hw rfl 0 O O eG)<|vG O (aF (c:=true) rfl rfl rfl rfl (iF ag))<|vV O (bP O O O)<|vE hK19<|vT1 O<|wT fun K20 hK20=>vX O<|vE hK20 fun a hF=>?_
  apply wp_ret
  simp only [Exit.then]
  refine aO hF Tryz.results80 O ?_
  exact ⟨rfl,hw⟩
set_option maxRecDepth 100000 in
set_option maxHeartbeats 1000000 in
theorem Af (w0 w:World) (rb:Nat) (R:List Row) (A:Option Addr) (l:List UInt8) (c p y:Nat) (hw:At w0 ((rb,152,[.slice A l.length c,.int .i64 (p:Int),.int .i64 (y:Int)])::R) w) (hp:p≤l.length) (hl:l.length<140737488354000):Calls Tryz.prog 52 #[.pointer (some ⟨rb,0,none⟩)] w fun e w'=>e= .returned (.int .i64 ((l.length-p:Nat):Int))∧At w0 ((rb,152,[.slice A l.length c,.int .i64 (p:Int),.int .i64 (y:Int)])::R) w':=by
 refine aP Tryz.func52 O Tryz.ntmps52 ai (fun a hF=>?_)
 refine wS hF fun K1 hK1=>vX O<|vE hK1<|wQ fun K2 hK2 a hF=>?_
 refine aQ 10 [10] [0,1,2,3,4,5,6,7,8,9,10] (fun x=>At w0 ((rb,152,[.slice A l.length c,.int .i64 (p:Int),.int .i64 (y:Int)])::R) x) af af (hw.drew) ?_
 refine pR hF<|pX O O<|pX O O<|pW O O (fun _=>yf 0 O N7 O jq O)<|pV O O (fun x hx=>bQ O hx O 0 O O jr)<|pW O O (fun _=>aT O Nq O O)<|pX O O<|pX O O<|pW O O (fun _=>yf 1 O N7 O gZ O)<|pV O O (fun x hx=>bQ O hx O 0 O O jZ)<|pW O O (fun _=>eu O O O (show IntKind.i64.wrap ((l.length:Int)-(p:Int))=((l.length-p:Nat):Int) by rw [Np _ ag]; omega)) fun a hF=>?_
 refine dG hF O O O O ae _ (fO O O) (fun h=>absurd h ae) (fun a hF=>?_)
 refine bI ?_
 refine hK2 _ _ ?_
 apply wp_ret
 refine aO hF Tryz.results52 O ?_
 exact ⟨rfl,hw.drew⟩
set_option maxRecDepth 100000 in
set_option maxHeartbeats 1000000 in
theorem JW (w0 w:World) (rb:Nat) (R:List Row) (A:Option Addr) (l:List UInt8) (c p y:Nat) (hw:At w0 ((rb,152,[.slice A l.length c,.int .i64 (p:Int),.int .i64 (y:Int)])::R) w):Calls Tryz.prog 53 #[.pointer (some ⟨rb,0,none⟩)] w fun e w'=>e= .returned (.int .i64 (y:Int))∧At w0 ((rb,152,[.slice A l.length c,.int .i64 (p:Int),.int .i64 (y:Int)])::R) w':=by
 refine aP Tryz.func53 O Tryz.ntmps53 ai (fun a hF=>?_)
 refine wS hF fun K1 hK1=>vX O<|vE hK1<|wT fun K2 hK2=>vX O<|vX O<|vV O (yf 2 O N7 O dO O)<|vV O (bQ O hw rfl 0 O O eG)<|vX O<|vE hK2 fun a hF=>?_
 apply wp_ret
 refine aO hF Tryz.results53 O ?_
 exact ⟨rfl,hw⟩
set_option maxRecDepth 100000 in
set_option maxHeartbeats 1000000 in
theorem H6 (w0 w:World) (rb:Nat) (R:List Row) (A:Option Addr) (l:List UInt8) (c p y:Nat) (hw:At w0 ((rb,152,[.slice A l.length c,.int .i64 (p:Int),.int .i64 (y:Int)])::R) w) (hp:p≤l.length) (hl:l.length<140737488354000):Calls Tryz.prog 84 #[.pointer (some ⟨rb,0,none⟩)] w fun e w'=>e= .returned (.int .i64 ((if y=0∧p<l.length then 8 else y:Nat):Int))∧At w0 ((rb,152,[.slice A l.length c,.int .i64 (p:Int),.int .i64 (y:Int)])::R) w':=by
 by_cases hy:y=0
 ·subst hy
  by_cases hg:p<l.length
  ·rw [if_pos ⟨rfl,hg⟩]
   refine aP Tryz.func84 O Tryz.ntmps84 ai (fun a hF=>?_)
   refine wS hF fun K1 hK1=>vX O<|vE hK1<|wQ fun K2 hK2=>wT fun K3 hK3=>vX O<|vX O<|vV O (yf 2 O N7 O dO O)<|vV O (bQ O hw rfl 0 O O eG)<|vV O (aF (c:=true) rfl rfl rfl rfl rfl)<|vX O<|vG O (aV O O) fun a hF=>?_
   refine gI hF O O O O (fun K hK=>ay hF O ae Bc rfl rfl ?_)
   with_reducible refine (Af w0 w rb R A l c p 0 hw hp hl).mono ?_
   rintro e' w2 ⟨rfl,hA2⟩
   refine ⟨_,rfl,fun a hF=>hK _ _ ?_⟩
   refine vR hF<|vG O (aF (c:=true) rfl rfl rfl rfl (dY ag))<|vV O (bP O O O)<|vE hK3<|vT1 O<|wT fun K4 hK4=>vX O<|vE hK4 fun a hF=>?_
   apply wp_ret
   simp only [Exit.then]
   refine aO hF Tryz.results84 O ?_
   exact ⟨rfl,hA2⟩
  ·rw [if_neg (fun h=>hg h.2)]
   refine aP Tryz.func84 O Tryz.ntmps84 ai (fun a hF=>?_)
   refine wS hF fun K5 hK5=>vX O<|vE hK5<|wQ fun K6 hK6=>wT fun K7 hK7=>vX O<|vX O<|vV O (yf 2 O N7 O dO O)<|vV O (bQ O hw rfl 0 O O eG)<|vV O (aF (c:=true) rfl rfl rfl rfl rfl)<|vX O<|vG O (aV O O) fun a hF=>?_
   refine gI hF O O O O (fun K hK=>ay hF O ae Bc rfl rfl ?_)
   with_reducible refine (Af w0 w rb R A l c p 0 hw hp hl).mono ?_
   rintro e' w2 ⟨rfl,hA2⟩
   refine ⟨_,rfl,fun a hF=>hK _ _ ?_⟩
   refine vR hF<|vG O (aF (c:=false) rfl rfl rfl rfl (fE ag))<|vV O (bP O O O)<|vE hK7<|vF1 O<|wKp hK6<|wT fun K8 hK8=>vX O<|vX O<|vV O (yf 2 O N7 O dO O)<|vV O (bQ O hA2 O 0 O O eG)<|vX O<|vE hK8 fun a hF=>?_
   apply wp_ret
   refine aO hF Tryz.results84 O ?_
   exact ⟨rfl,hA2⟩
 ·rw [if_neg (fun h=>hy h.1)]
  refine aP Tryz.func84 O Tryz.ntmps84 ai (fun a hF=>?_)
  refine wS hF fun K9 hK9=>vX O<|vE hK9<|wQ fun K10 hK10=>wT fun K11 hK11=>vX O<|vX O<|vV O (yf 2 O N7 O dO O)<|vV O (bQ O hw rfl 0 O O eG)<|vV O (aF (c:=false) rfl rfl rfl rfl (bU ag))<|vX O<|vS O<|vS O<|vS O<|vV O (bP O O O)<|vE hK11<|vF1 O<|wKp hK10<|wT fun K12 hK12=>vX O<|vX O<|vV O (yf 2 O N7 O dO O)<|vV O (bQ O hw rfl 0 O O eG)<|vX O<|vE hK12 fun a hF=>?_
  apply wp_ret
  refine aO hF Tryz.results84 O ?_
  exact ⟨rfl,hw⟩
theorem yY (n:Nat):aI .eql (n:Int) 1=(n == 1):=by
 rw [aI]; by_cases h:n=1
 ·subst h; rfl
 ·rw [beq_eq_false_iff_ne.2 h]; exact beq_eq_false_iff_ne.2 ag
set_option maxRecDepth 100000 in
set_option maxHeartbeats 1000000 in
theorem H5 (w0 w:World) (rb:Nat) (R:List Row) (A:Option Addr) (l:List UInt8) (c p y:Nat) (hB:∀ (v:List Value) (x:World),At w0 ((rb,152,v)::R) x→Bts x A l) (hc:l.length≤c) (hw:At w0 ((rb,152,[.slice A l.length c,.int .i64 (p:Int),.int .i64 (y:Int)])::R) w) (hp:p≤l.length) (hl:l.length<140737488354000):Calls Tryz.prog 99 #[.pointer (some ⟨rb,0,none⟩)] w fun e w'=>e= .returned (.bool (flB l p y))∧At w0 ((rb,152,[.slice A l.length c,.int .i64 ((flP l p y:Nat):Int),.int .i64 ((flY l p y:Nat):Int)])::R) w':=by
 by_cases hy:y=0
 ·subst hy
  by_cases hle:p+1≤l.length
  ·have hok:jf 1 l p=true:=decide_eq_true hle
   have hto:jQ 1 l p=p+1:=if_pos hle
   by_cases h1:ahN 1 l p≤1
   ·have hfl:vM l p=true:=by rw [vM,hok,decide_eq_true h1]; rfl
    refine aP Tryz.func99 O Tryz.ntmps99 ai (fun a hF=>?_)
    refine wS hF fun K1 hK1=>vX O<|vE hK1<|wQ fun K2 hK2=>wT fun K3 hK3=>vX O<|vX O<|vV O (yf 2 O N7 O dO O)<|vV O (bQ O hw rfl 0 O O eG)<|vV O (aF (c:=false) rfl rfl rfl rfl (fK rfl))<|vE hK3<|vF1 O<|wKp hK2<|wT fun K4 hK4=>vX O<|vX O<|vX O<|vV O (yf 1 O N7 O gZ O)<|vV O (bQ O hw rfl 0 O O jZ) fun a hF=>?_
    refine ax O (fun K hK=>ay hF O ae ou rfl rfl ?_)
    with_reducible refine (iw w0 w rb R A l c p 0 p hB hc hw hl hp).mono ?_
    rintro e' w' ⟨rfl,rfl⟩
    refine ⟨_,rfl,fun a hF=>hK _ _ ?_⟩
    rw [hok,hto] at hF
    refine vR hF<|vX O<|vV O (aN O O O)<|vV O (aN O O O)<|vV O (aN O O O)<|vX O<|vX O<|vX O<|vE hK4<|wQ fun K5 hK5=>wT fun K6 hK6=>vX O<|vV O (dm O O O)<|vX O<|vG O (aV O O)<|vG O (aF (c:=false) rfl rfl rfl rfl (fE ag))<|vV O (bP O O O)<|vE hK6<|vF1 O<|wKp hK5<|wT fun K7 hK7=>vX O<|vX O<|vX O<|vV O (yf 1 O N7 O gZ O) fun a hF=>?_
    refine ax O (fun K hK=>jA hF O O hw rfl rfl 0 O (by simp) rfl gZ (fun w2 hA2=>hK _ _ ?_))
    replace hA2:At w0 ((rb,152,[.slice A l.length c,.int .i64 ((p+1:Nat):Int),.int .i64 (0:Int)])::R) w2:=hA2
    refine aH<|hK7 _ _ ?_
    refine wS hF fun K8 hK8=>vX O<|vV O (aF (c:=(ahN 1 l p == 1)) O O O O (yY _))<|vX O<|vE hK8 fun a hF=>?_
    apply wp_ret
    refine aO hF Tryz.results99 O ?_
    exact ⟨rfl,by rw [flP,flY,if_pos ⟨rfl,hfl⟩,if_pos rfl,if_pos hfl]; exact hA2⟩
   ·have hfl:¬(vM l p=true):=by rw [vM,decide_eq_false h1,Bool.and_false]; decide
    refine aP Tryz.func99 O Tryz.ntmps99 ai (fun a hF=>?_)
    refine wS hF fun K9 hK9=>vX O<|vE hK9<|wQ fun K10 hK10=>wT fun K11 hK11=>vX O<|vX O<|vV O (yf 2 O N7 O dO O)<|vV O (bQ O hw rfl 0 O O eG)<|vV O (aF (c:=false) rfl rfl rfl rfl (fK rfl))<|vE hK11<|vF1 O<|wKp hK10<|wT fun K12 hK12=>vX O<|vX O<|vX O<|vV O (yf 1 O N7 O gZ O)<|vV O (bQ O hw rfl 0 O O jZ) fun a hF=>?_
    refine ax O (fun K hK=>ay hF O ae ou rfl rfl ?_)
    with_reducible refine (iw w0 w rb R A l c p 0 p hB hc hw hl hp).mono ?_
    rintro e' w' ⟨rfl,rfl⟩
    refine ⟨_,rfl,fun a hF=>hK _ _ ?_⟩
    rw [hok,hto] at hF
    refine vR hF<|vX O<|vV O (aN O O O)<|vV O (aN O O O)<|vV O (aN O O O)<|vX O<|vX O<|vX O<|vE hK12<|wQ fun K13 hK13=>wT fun K14 hK14=>vX O<|vV O (dm O O O)<|vX O<|vG O (aV O O)<|vG O (aF (c:=true) rfl rfl rfl rfl (dY ag))<|vV O (bP O O O)<|vE hK14<|vT1 O<|wT fun K15 hK15=>vX O fun a hF=>?_
    refine ax O (fun K hK=>ay hF O ae oh rfl rfl ?_)
    with_reducible refine (jC w0 w rb R A l c p 0 8 8 O hw).mono ?_
    rintro e' w2 ⟨rfl,hA2⟩
    refine ⟨_,rfl,fun a hF=>hK _ _ ?_⟩
    rw [if_pos rfl] at hA2
    refine aH<|hK15 _ _ ?_
    refine wS hF fun K16 hK16=>vX O<|vE hK16 fun a hF=>?_
    apply wp_ret
    simp only [Exit.then]
    refine aO hF Tryz.results99 O ?_
    exact ⟨by rw [flB,show (ahN 1 l p == 1)=false from beq_eq_false_iff_ne.2 ag,Bool.and_false],by rw [flP,flY,if_neg (fun h=>hfl h.2),if_pos rfl,if_neg hfl]; exact hA2⟩
  ·have hok:jf 1 l p=false:=decide_eq_false hle
   have hto:jQ 1 l p=p:=if_neg hle
   have hfl:¬(vM l p=true):=by rw [vM,hok,Bool.false_and]; decide
   refine aP Tryz.func99 O Tryz.ntmps99 ai (fun a hF=>?_)
   refine wS hF fun K17 hK17=>vX O<|vE hK17<|wQ fun K18 hK18=>wT fun K19 hK19=>vX O<|vX O<|vV O (yf 2 O N7 O dO O)<|vV O (bQ O hw rfl 0 O O eG)<|vV O (aF (c:=false) rfl rfl rfl rfl (fK rfl))<|vE hK19<|vF1 O<|wKp hK18<|wT fun K20 hK20=>vX O<|vX O<|vX O<|vV O (yf 1 O N7 O gZ O)<|vV O (bQ O hw rfl 0 O O jZ) fun a hF=>?_
   refine ax O (fun K hK=>ay hF O ae ou rfl rfl ?_)
   with_reducible refine (iw w0 w rb R A l c p 0 p hB hc hw hl hp).mono ?_
   rintro e' w' ⟨rfl,rfl⟩
   refine ⟨_,rfl,fun a hF=>hK _ _ ?_⟩
   rw [hok,hto] at hF
   refine vR hF<|vX O<|vV O (aN O O O)<|vV O (aN O O O)<|vV O (aN O O O)<|vX O<|vX O<|vX O<|vE hK20<|wQ fun K21 hK21=>wT fun K22 hK22=>vX O<|vV O (dm O O O)<|vX O<|vS O<|vS O<|vV O (bP O O O)<|vE hK22<|vT1 O<|wT fun K23 hK23=>vX O fun a hF=>?_
   refine ax O (fun K hK=>ay hF O ae oh rfl rfl ?_)
   with_reducible refine (jC w0 w rb R A l c p 0 8 8 O hw).mono ?_
   rintro e' w2 ⟨rfl,hA2⟩
   refine ⟨_,rfl,fun a hF=>hK _ _ ?_⟩
   rw [if_pos rfl] at hA2
   refine aH<|hK23 _ _ ?_
   refine wS hF fun K24 hK24=>vX O<|vE hK24 fun a hF=>?_
   apply wp_ret
   simp only [Exit.then]
   refine aO hF Tryz.results99 O ?_
   exact ⟨by rw [flB,ahN,if_neg hle]; rfl,by rw [flP,flY,if_neg (fun h=>hfl h.2),if_pos rfl,if_neg hfl]; exact hA2⟩
 ·refine aP Tryz.func99 O Tryz.ntmps99 ai (fun a hF=>?_)
  refine wS hF fun K25 hK25=>vX O<|vE hK25<|wQ fun K26 hK26=>wT fun K27 hK27=>vX O<|vX O<|vV O (yf 2 O N7 O dO O)<|vV O (bQ O hw rfl 0 O O eG)<|vV O (aF (c:=true) rfl rfl rfl rfl (iF ag))<|vE hK27<|vT1 O<|wT fun K28 hK28=>vX O<|vE hK28 fun a hF=>?_
  apply wp_ret
  simp only [Exit.then]
  refine aO hF Tryz.results99 O ?_
  exact ⟨by simp [flB,hy],by rw [flP,flY,if_neg (fun h=>hy h.1),if_neg hy]; exact hw⟩
end Go.Proofs.YtepbmdlgdaedpaaGreatDoor
