/- docketref8 walked. -/
import Derived.Test.YtpomngkcfbnjoaaGreatDoorSpZ
import Derived.Test.YtpomngkcfbnjoaaGreatDoorSp1
import Derived.Test.YtpomngkcfbnjoaaGreatDoorRn
/- docketref8 walked. -/
set_option maxRecDepth 100000
set_option maxHeartbeats 2000000
namespace Go.Proofs.YtpomngkcfbnjoaaGreatDoor
open Go.RowKit Go.Dk
theorem CW:∀ (i:Nat) {a b:List UInt8},a.length=b.length→i<a.length→(∀ j,j<i→bAt a j=bAt b j)→bAt a i≠bAt b i→(nb a<nb b↔(bAt a i).toNat<(bAt b i).toNat)
 | _,[],_,_,h,_,_=>absurd h (Nat.not_lt_zero _)
 | _,_::_,[],h,_,_,_=>by cases h
 | 0,x::a,y::b,hl,_,_,hne=>by
  have hl':a.length=b.length:=by simpa using hl
  have h1:=uH a
  have h2:=uH b
  rw [← hl'] at h2
  have hne':x.toNat≠y.toNat:=fun e=>hne (UInt8.toNat_inj.1 e)
  show x.toNat*2 ^ (8*a.length)+nb a<y.toNat*2 ^ (8*b.length)+nb b↔x.toNat<y.toNat
  rw [← hl']
  generalize 2 ^ (8*a.length)=P at h1 h2
  constructor
  ·intro h
   rcases Nat.lt_or_ge x.toNat y.toNat with h3 | h3
   ·exact h3
   ·have h4:(y.toNat+1)*P≤x.toNat*P:=Nat.mul_le_mul_right _ ag
    rw [Nat.add_mul,Nat.one_mul] at h4
    omega
  ·intro h
   have h4:(x.toNat+1)*P≤y.toNat*P:=Nat.mul_le_mul_right _ h
   rw [Nat.add_mul,Nat.one_mul] at h4
   omega
 | i+1,x::a,y::b,hl,hi,hall,hne=>by
  have hl':a.length=b.length:=by simpa using hl
  have h0:x=y:=hall 0 (Nat.succ_pos _)
  subst h0
  have h1:=CW i hl' (by simpa using hi) (fun j hj=>hall (j+1) ag) hne
  show x.toNat*2 ^ (8*a.length)+nb a<x.toNat*2 ^ (8*b.length)+nb b↔_
  rw [← hl']
  refine Iff.trans ?_ h1
  omega
theorem zD:∀ {a b:List UInt8},a.length=b.length→(∀ j,j<a.length→bAt a j=bAt b j)→a=b
 | [],[],_,_=>rfl
 | [],_::_,h,_=>by cases h
 | _::_,[],h,_=>by cases h
 | x::a,y::b,h,h2=>by
  have h0:x=y:=h2 0 (by simp)
  rw [h0,zD (by simpa using h) fun j hj=>h2 (j+1) (by simpa using hj)]
theorem RP {a b:List UInt8} {i:Nat} (ha:a.length=32) (hb:b.length=32) (hi:i<32) (h:∀ j,j<i→bAt a j=bAt b j) (hne:bAt a i≠bAt b i):jU .lss ((bAt a i).toNat:Int) ((bAt b i).toNat:Int)=decide (nb a<nb b):=by
 have h1:=CW i (ha.trans hb.symm) ag h hne
 unfold jU
 apply decide_eq_decide.2
 rw [h1]
 omega
theorem Sj (a b:Nat):jU .neq (a:Int) (b:Int)=decide (a≠b):=by
 unfold jU
 by_cases h:a=b
 ·subst h; simp
 ·simp [h,show ¬ (a:Int)=(b:Int) by omega]
theorem cmp_eq (a b:Nat):jU .eql (a:Int) (b:Int)=decide (a=b):=by
 unfold jU
 by_cases h:a=b
 ·subst h; simp
 ·simp [h,show ¬ (a:Int)=(b:Int) by omega]
theorem mO (l:List Itm) (x:Itm):cel Itm.cells (l++[x])=cel Itm.cells l++x.cells:=by
 rw [je]
 congr 1
 unfold cel
 simp
theorem lZ (l:List Itm) (x:Itm):l.length+1=(l++[x]).length:=(@List.length_append Itm l [x]).symm
theorem I7 {i:Itm} {l:List Itm} {k:List UInt8} (h:¬ i.k=k):gX (i::l) k=gX l k:=List.find?_cons_of_neg (by simpa using h)
theorem I5 {i:Itm} {l:List Itm} {k:List UInt8} (h:i.k=k):gX (i::l) k=some i:=List.find?_cons_of_pos (by exact decide_eq_true h)
theorem IQ {a b:List UInt8} (ha:a.length=32) (hb:b.length=32):nb a=nb b↔a=b:=⟨Fe (ha.trans hb.symm),fun h=>by rw [h]⟩
theorem IG {a k:List UInt8} {J:Nat} (hJ:J<256) (ha:agree a k J) (hn:bK a J≠bK k J):bI a k=J:=kG ag ha fun _=>hn
theorem yE {k:List UInt8} {h:Nat} {i:Itm} {l:List Itm} (hp:bI i.k k=255-h):iC k h (i::l)=i::iC k h l:=List.filter_cons_of_pos (by exact decide_eq_true hp)
theorem rP {k:List UInt8} {h:Nat} {i:Itm} {l:List Itm} (hp:¬ bI i.k k=255-h):iC k h (i::l)=iC k h l:=List.filter_cons_of_neg (by simpa using hp)
theorem LX (k:List UInt8) (h:Nat):iC k h []=[]:=rfl
theorem LY (k:List UInt8) (h:Nat) (l:List Itm):(iC k h l).length≤l.length:=List.length_filter_le ..
theorem Pg {k:List UInt8} {h:Nat} {l:List Itm} (hl:∀ i∈l,i.OK):∀ i∈iC k h l,i.OK:=fun i hi=>hl i (List.mem_filter.1 hi).1
theorem Pe (i:Itm):okC i=decide (1≤i.ct∧i.ct≤1099511627776):=rfl
theorem cells_one (l:List Itm):∀ v∈cel Itm.cells l,v.oneCell'=true:=fun v hv=>by
 obtain ⟨W,h1,h2⟩:=List.mem_flatten.1 hv
 obtain ⟨i,_,rfl⟩:=List.mem_map.1 h1
 exact Itm.one i v h2
theorem sW:aG Tryz.prog 46:=⟨_,Tryz.func46,af,af⟩
theorem xR:aG Tryz.prog 40:=⟨_,Tryz.func40,af,af⟩
theorem Nb:aG Tryz.prog 41:=⟨_,Tryz.func41,af,af⟩
theorem MW:aG Tryz.prog 31:=⟨_,Tryz.func31,af,af⟩
theorem zC:aG Tryz.prog 56:=⟨_,Tryz.func56,af,af⟩
theorem Gl (w0 w:World) (R:List Seg) (kx ky:List UInt8) (ha:kx.length=32) (hb:ky.length=32) (hA:Hp w0 R w):Calls Tryz.prog 56 #[.agg (dc kx).toArray,.agg (dc ky).toArray] w fun e w'=>e= .returned (.bool (decide (nb kx<nb ky)))∧Hp w0 R w':=by
 have hda:(dc kx).length=32:=by rw [aj,ha]
 have hdb:(dc ky).length=32:=by rw [aj,hb]
 refine aJ Tryz.func56 O Tryz.ntmps56 ai (fun a hF=>?_)
 refine wp_seq_k fun K1 hK1=>wp_region_lit ?_
 refine au O (fun K hK=>bC (cs:=dc kx) hF O ae rfl hA O (fun b1 w2 a hb1 hF hA3=>hK _ _ ?_))
 refine au O (fun K hK=>bC (cs:=dc ky) hF O ae rfl hA3 O (fun b4 w5 a hb4 hF hA6=>hK _ _ ?_))
 refine vR hF<|vX O<|vE hK1<|wQ fun K2 hK2=>wT fun K3 hK3=>vX O<|vE hK3<|wBk fun a hF=>?_
 refine bQ (G:=Nat) (fun i a x=>i≤32∧(∀ j,j<i→bAt kx j=bAt ky j)∧Fr 24 [(5,.int .i64 (i:Int)),(2,.pointer (some ⟨b1,0,none⟩)),(3,.pointer (some ⟨b4,0,none⟩))] a∧Hp w0 ([row b4 25 (dc ky)]::[row b1 25 (dc kx)]::R) x) (fun i=>32-i) 0 (⟨Tv _,(fun j hj=>absurd hj (Nat.not_lt_zero _)),hF.keep [5,2,3] rfl,hA6⟩) ?_
 clear hF
 rintro i a w8 ⟨hi,hall,hF,hA7⟩
 apply wp_seq_k; intro K4 hK4
 refine wS hF fun K5 hK5=>vX O<|vV O (aH O O O O O)<|vE hK5 fun a hF=>?_
 by_cases hlt:i<32
 ·refine aZ hF O (dB ag) ?_
  by_cases hne:bAt kx i≠bAt ky i
  ·have hnn:=Qx hne
   apply wp_skip
   refine hK4 _ _ ?_
   apply wp_seq_k; intro K6 hK6
   apply wp_block
   apply wp_seq_k; intro K7 hK7
   refine ak 6 [6] [0,1,2,3,4,5,6] _ af af (Hq.drew hA7.q) ?_
   have hA9:=Hl.drew hA7
   refine pR hF<|pX O O<|pW O O (fun _=>aP O Tz D5 rfl rfl i rfl hlt (ad1 _ _) (rfl:(none:Option Nat)=none))<|pV O O (fun x hx=>aX O hx O 1 O (iP (by rw [ha]; exact hlt)) Aq) fun a hF=>?_
   refine pR hF<|pX O O<|pW O O (fun _=>aP O Tz D5 rfl rfl i rfl hlt (ad1 _ _) (rfl:(none:Option Nat)=none))<|pV O O (fun x hx=>aX O hx O 0 O (iP (by rw [hb]; exact hlt)) Aq) fun a hF=>?_
   refine bY hF O O O O ae _ (aH O O O O (nS ag)) (fun h=>absurd h ae) (fun a hF=>?_)
   refine aB ?_
   refine hK7 _ _ ?_
   refine eP hF O ?_
   apply wp_seq_k; intro K8 hK8
   refine ak 7 [7] [0,1,2,3,4,5,6,7] _ af af (Hq.drew hA9.q) ?_
   have hA10:=Hl.drew hA9
   refine pR hF<|pX O O<|pW O O (fun _=>aP O Tz D5 rfl rfl i rfl hlt (ad1 _ _) (rfl:(none:Option Nat)=none))<|pV O O (fun x hx=>aX O hx O 1 O (iP (by rw [ha]; exact hlt)) Aq) fun a hF=>?_
   refine pR hF<|pX O O<|pW O O (fun _=>aP O Tz D5 rfl rfl i rfl hlt (ad1 _ _) (rfl:(none:Option Nat)=none))<|pV O O (fun x hx=>aX O hx O 0 O (iP (by rw [hb]; exact hlt)) Aq) fun a hF=>?_
   refine pR hF<|pW O O (fun _=>aH O O O O (RP ha hb hlt hall hne)) fun a hF=>?_
   refine bY hF O O O O ae _ (bJ O O) (fun h=>absurd h ae) (fun a hF=>?_)
   refine aB ?_
   refine hK8 _ _ ?_
   apply wp_ret
   simp only [Exit.then,Exit.inBlock]
   refine aO hF Tryz.results56 O ?_
   have hA11:Hp w0 (R) w8.drew.drew:=hpS 2 [] [0,1] hA10 rfl
   exact ⟨rfl,hA11⟩
  ·have hee:((bAt kx i).toNat:Int)=((bAt ky i).toNat:Int):=by rw [Decidable.not_not.1 hne]
   apply wp_skip
   refine hK4 _ _ ?_
   apply wp_seq_k; intro K9 hK9
   apply wp_block
   apply wp_seq_k; intro K10 hK10
   refine ak 6 [6] [0,1,2,3,4,5,6] _ af af (Hq.drew hA7.q) ?_
   have hA12:=Hl.drew hA7
   refine pR hF<|pX O O<|pW O O (fun _=>aP O Tz D5 rfl rfl i rfl hlt (ad1 _ _) (rfl:(none:Option Nat)=none))<|pV O O (fun x hx=>aX O hx O 1 O (iP (by rw [ha]; exact hlt)) Aq) fun a hF=>?_
   refine pR hF<|pX O O<|pW O O (fun _=>aP O Tz D5 rfl rfl i rfl hlt (ad1 _ _) (rfl:(none:Option Nat)=none))<|pV O O (fun x hx=>aX O hx O 0 O (iP (by rw [hb]; exact hlt)) Aq) fun a hF=>?_
   refine bY hF O O O O ae _ (aH O O O O (jb ag)) (fun h=>absurd h ae) (fun a hF=>?_)
   refine aB ?_
   refine hK10 _ _ ?_
   refine dL hF O ?_
   apply wp_skip
   refine hK9 _ _ ?_
   refine wp_region_lit ?_
   refine vR hF<|vX O<|vV O (bH O O O (TB _ ag))<|vX O fun a hF=>?_
   refine az ?_
   exact ⟨i+1,ag,ag,(fun j hj=>by rcases Nat.lt_or_ge j i with h3 | h3; exact hall j h3; obtain rfl:j=i:=ag; exact Decidable.not_not.1 hne),hF.keep [5,2,3] rfl,hA12⟩
 ·refine aS hF O (dD ag) ?_
  have hee:kx=ky:=zD (ha.trans hb.symm) (fun j hj=>hall j ag)
  have hdf:decide (nb kx<nb ky)=false:=by rw [hee]; exact decide_eq_false (Nat.lt_irrefl _)
  apply wp_exit
  refine hK2 _ _ ?_
  refine wS hF fun K11 hK11=>vV O (bJ O (show some (Value.bool false)=some (.bool (decide (nb kx<nb ky))) by rw [hdf]))<|vE hK11 fun a hF=>?_
  apply wp_ret
  refine aO hF Tryz.results56 O ?_
  have hA13:Hp w0 (R) w8:=hpS 2 [] [0,1] hA7 rfl
  exact ⟨rfl,hA13⟩
theorem EI (w0 w:World) (R G:List Seg) (hG:G⊆R) (A:Option Addr) (l:List Itm) (c:Nat) (hlc:l.length≤c) (hcm:l.length≤100000) (hI:∀ i∈l,i.OK) (hL:Rc w0 G A (cel Itm.cells l)) (k:List UInt8) (hk:k.length=32) (hA:Hp w0 R w):Calls Tryz.prog 40 #[.slice A l.length c,.agg (dc k).toArray] w fun e w'=>e= .returned (.tuple #[.agg (.int .i64 (dF l k)::dc (dC l k)).toArray,.bool (gX l k).isSome])∧Hp w0 R w':=by
 have hdk:(dc k).length=32:=by rw [aj,hk]
 refine aJ Tryz.func40 O Tryz.ntmps40 ai (fun a hF=>?_)
 refine wp_seq_k fun K1 hK1=>wp_region_lit ?_
 refine au O (fun K hK=>bC (cs:=dc k) hF O ae rfl hA O (fun b1 w2 a hb1 hF hA3=>hK _ _ ?_))
 refine au O (fun K hK=>bG hF O ae rfl hA3 (Bd) (fun b4 w5 a hb4 hF hA6=>hK _ _ ?_))
 refine vR hF<|vX O<|vE hK1<|wQ fun K2 hK2=>wT fun K3 hK3=>vX O<|vE hK3<|wBk fun a hF=>?_
 refine bQ (G:=Nat) (fun n a x=>n≤l.length∧gX l k=gX (l.drop n) k∧Fr 26 [(6,.int .i64 (n:Int)),(0,.slice A l.length c),(3,.pointer (some ⟨b1,0,none⟩)),(4,.pointer (some ⟨b4,0,none⟩))] a∧Hp w0 ([row b4 27 [.int .i64 0,.int .u8 0,.int .u8 0,.int .u8 0,.int .u8 0,.int .u8 0,.int .u8 0,.int .u8 0,.int .u8 0,.int .u8 0,.int .u8 0,.int .u8 0,.int .u8 0,.int .u8 0,.int .u8 0,.int .u8 0,.int .u8 0,.int .u8 0,.int .u8 0,.int .u8 0,.int .u8 0,.int .u8 0,.int .u8 0,.int .u8 0,.int .u8 0,.int .u8 0,.int .u8 0,.int .u8 0,.int .u8 0,.int .u8 0,.int .u8 0,.int .u8 0,.int .u8 0]]::[row b1 25 (dc k)]::R) x) (fun n=>l.length-n) 0 (⟨Tv _,(by rw [List.drop_zero]),hF.keep [6,0,3,4] rfl,hA6⟩) ?_
 clear hF
 rintro n a w8 ⟨hn,hgl,hF,hA7⟩
 apply wp_seq_k; intro K4 hK4
 refine wS hF fun K5 hK5=>vX O<|vX O<|vV O (aY O TT O O)<|vV O (aH O O O O O)<|vE hK5 fun a hF=>?_
 by_cases hlt:n<l.length
 ·refine aZ hF O (dB ag) ?_
  obtain ⟨i,hi⟩:∃ i,l[n]? = some i:=⟨_,List.getElem?_eq_getElem hlt⟩
  have hiK:=hI i (List.mem_of_getElem? hi)
  have hrb:=(fE hI hi).2
  obtain ⟨b,q,hAd,hc⟩:=hL.ne (i:=n*65) ag
  have hdr:l.drop n=i::l.drop (n+1):=by rw [List.drop_eq_getElem_cons hlt]; congr 1; exact Option.some.inj ((List.getElem?_eq_getElem hlt).symm.trans hi)
  by_cases hik:i.k=k
  ·have hfk:gX l k=some i:=by rw [hgl,hdr]; exact I5 hik
   have hct:=xK hfk
   have hch:=xM hfk
   have hss:(gX l k).isSome=true:=by rw [hfk]; rfl
   have hel:(Value.int .i64 (dF l k)::dc (dC l k)).length=33:=by rw [hch,List.length_cons,aj,hiK.ch]
   apply wp_skip
   refine hK4 _ _ ?_
   apply wp_seq_k; intro K6 hK6
   apply wp_block
   apply wp_seq_k; intro K7 hK7
   refine ak 6 [6] [0,1,2,3,4,5,6] _ af af (Hq.drew hA7.q) ?_
   have hA9:=Hl.drew hA7
   refine pR hF<|pX O O<|pX O O<|pW O O (fun _=>bi O TT kU (by exact congrArg (fun A=>some (Value.slice A l.length c)) hAd) rfl n rfl hlt rfl) fun a hF=>?_
   refine pR hF<|pW O O (fun _=>gm O TZ O uX ae rfl (rfl:(⟨_,_+_,none⟩:Addr)=⟨b,q+n*65+0,none⟩))<|pV O O (fun x hx=>aQ O (Hq.sub hx (List.Subset.trans hG (aA (aA (bu))))) O hc (n*65) (by have:=(fE hI hi).2; omega) rfl (jM hI hi) vw)<|pV O O (fun x hx=>yZ (new:=dc k) rfl hx O 1 O vw hdk) fun a hF=>?_
   refine bY hF O O O O ae _ (oM O Tz TA D5 af rfl rfl hiK.k hk (decide_eq_true hik)) (fun h=>absurd h ae) (fun a hF=>?_)
   refine aB ?_
   refine hK7 _ _ ?_
   refine eP hF O ?_
   refine wS hF fun K8 hK8=>vX O<|vX O<|vV O (bi O TT kU (by exact congrArg (fun A=>some (Value.slice A l.length c)) hAd) rfl n rfl hlt rfl) fun a hF=>?_
   refine vR hF<|vV O (gm O TZ O Bz ae rfl (rfl:(⟨_,_+_,none⟩:Addr)=⟨b,q+n*65+32,none⟩))<|vV O (aQ O (Hq.sub hA9.q (List.Subset.trans hG (aA (aA (bu))))) O hc (n*65+32) (by have:=(fE hI hi).2; omega) ag (show _= .int .i64 (dF l k)::dc (dC l k) by rw [hct,hch]; exact xg hI hi) BN) fun a hF=>?_
   refine au O (fun K hK=>aI (new:= .int .i64 (dF l k)::dc (dC l k)) hF O O hA9 O O 0 O (by rw [hel]; rfl) (jS _ _) Bz (fun w10 hA11=>hK _ _ ?_))
   replace hA11:Hp w0 ([row b4 27 (.int .i64 (dF l k)::dc (dC l k))]::[row b1 25 (dc k)]::R) w10:=hA11
   refine vR hF<|vV O (bJ O (show some (Value.bool true)=some (.bool (gX l k).isSome) by rw [hss]))<|vE hK8 fun a hF=>?_
   apply wp_ret
   simp only [Exit.then,Exit.inBlock]
   refine iM hF Tryz.results40 hA11.q O O 0 O (by rw [hel]; exact BN) ?_
   have hA12:Hp w0 (R) w10:=hpS 2 [] [0,1] hA11 rfl
   exact ⟨rfl,hA12⟩
  ·apply wp_skip
   refine hK4 _ _ ?_
   apply wp_seq_k; intro K9 hK9
   apply wp_block
   apply wp_seq_k; intro K10 hK10
   refine ak 6 [6] [0,1,2,3,4,5,6] _ af af (Hq.drew hA7.q) ?_
   have hA13:=Hl.drew hA7
   refine pR hF<|pX O O<|pX O O<|pW O O (fun _=>bi O TT kU (by exact congrArg (fun A=>some (Value.slice A l.length c)) hAd) rfl n rfl hlt rfl) fun a hF=>?_
   refine pR hF<|pW O O (fun _=>gm O TZ O uX ae rfl (rfl:(⟨_,_+_,none⟩:Addr)=⟨b,q+n*65+0,none⟩))<|pV O O (fun x hx=>aQ O (Hq.sub hx (List.Subset.trans hG (aA (aA (bu))))) O hc (n*65) (by have:=(fE hI hi).2; omega) rfl (jM hI hi) vw)<|pV O O (fun x hx=>yZ (new:=dc k) rfl hx O 1 O vw hdk) fun a hF=>?_
   refine bY hF O O O O ae _ (oM O Tz TA D5 af rfl rfl hiK.k hk (decide_eq_false hik)) (fun h=>absurd h ae) (fun a hF=>?_)
   refine aB ?_
   refine hK10 _ _ ?_
   refine dL hF O ?_
   apply wp_skip
   refine hK9 _ _ ?_
   refine wp_region_lit ?_
   refine vR hF<|vX O<|vV O (bH O O O (TB _ ag))<|vX O fun a hF=>?_
   refine az ?_
   exact ⟨n+1,ag,ag,(by rw [hgl,hdr]; exact I7 hik),hF.keep [6,0,3,4] rfl,hA13⟩
 ·refine aS hF O (dD ag) ?_
  obtain rfl:n=l.length:=by omega
  have hfk:gX l k=none:=by rw [hgl,List.drop_length]; rfl
  have hct:=qO hfk
  have hch:=qP hfk
  have hss:(gX l k).isSome=false:=by rw [hfk]; rfl
  have hel:(Value.int .i64 (dF l k)::dc (dC l k)).length=33:=by rw [hch]; rfl
  apply wp_exit
  refine hK2 _ _ ?_
  refine wS hF fun K11 hK11=>vV O (dS (v:= .agg (.int .i64 (dF l k)::dc (dC l k)).toArray) (qs := #[]) O O (by intro w; rw [hct,hch]; exact zS w)) fun a hF=>?_
  refine au O (fun K hK=>aI (new:= .int .i64 (dF l k)::dc (dC l k)) hF O O hA7 O O 0 O (by rw [hel]; rfl) (jS _ _) Bz (fun w14 hA15=>hK _ _ ?_))
  replace hA15:Hp w0 ([row b4 27 (.int .i64 (dF l k)::dc (dC l k))]::[row b1 25 (dc k)]::R) w14:=hA15
  refine vR hF<|vV O (bJ O (show some (Value.bool false)=some (.bool (gX l k).isSome) by rw [hss]))<|vE hK11 fun a hF=>?_
  apply wp_ret
  refine iM hF Tryz.results40 hA15.q O O 0 O (by rw [hel]; exact BN) ?_
  have hA16:Hp w0 (R) w14:=hpS 2 [] [0,1] hA15 rfl
  exact ⟨rfl,hA16⟩
theorem Lj (w0 w:World) (R G:List Seg) (hG:G⊆R) (A:Option Addr) (l:List Itm) (c:Nat) (hlc:l.length≤c) (hcm:l.length≤100000) (hI:∀ i∈l,i.OK) (hL:Rc w0 G A (cel Itm.cells l)) (it:Itm) (hx:it.OK) (hA:Hp w0 R w):Calls Tryz.prog 31 #[.slice A l.length c,.agg (dc it.k).toArray,.agg (.int .i64 it.ct::dc it.ch).toArray] w fun e w'=>∃ v X,e= .returned (.tuple #[v,.int .i64 (if okC it=true then 0 else 8)])∧Buf 49 65 X v (if okC it=true then insL it l else []).length (cel Itm.cells (if okC it=true then insL it l else []))∧Hp w0 (X::R) w':=by
 have hdk:(dc it.k).length=32:=by rw [aj,hx.k]
 have hde:(Value.int .i64 it.ct::dc it.ch).length=33:=by rw [List.length_cons,aj,hx.ch]
 refine aJ Tryz.func31 O Tryz.ntmps31 ai (fun a hF=>?_)
 refine wp_seq_k fun K1 hK1=>wp_region_lit ?_
 refine au O (fun K hK=>bC (cs:=dc it.k) hF O ae rfl hA O (fun b1 w2 a hb1 hF hA3=>hK _ _ ?_))
 refine au O (fun K hK=>bC (cs:= .int .i64 it.ct::dc it.ch) hF O ae rfl hA3 O (fun b4 w5 a hb4 hF hA6=>hK _ _ ?_))
 refine vR hF<|vX O<|vX O<|vE hK1<|wQ fun K2 hK2=>wQ fun K3 hK3 a hF=>?_
 by_cases hct:1≤it.ct∧it.ct≤1099511627776
 ·have hok:okC it=true:=decide_eq_true hct
  refine wp_region_lit ?_
  refine vR hF<|vV O (yZ (new:= .int .i64 it.ct::dc it.ch) rfl hA6.q O 0 O BN hde) fun a hF=>?_
  refine au O (fun K hK=>ax hF O ae sW rfl rfl ?_)
  with_reducible refine (nN w0 _ ([row b4 27 (.int .i64 it.ct::dc it.ch)]::[row b1 25 (dc it.k)]::R) it.ct it.ch hA6).mono ?_
  rintro e' w7 ⟨rfl,hA8⟩
  refine ⟨_,rfl,fun a hF=>hK _ _ ?_⟩
  replace hA8:Hp w0 ([row b4 27 (.int .i64 it.ct::dc it.ch)]::[row b1 25 (dc it.k)]::R) w7:=hA8
  rw [decide_eq_true hct] at hF
  refine vR hF<|vV O (eU O O O)<|vE hK3<|vF1 O<|wKp hK2<|wT fun K4 hK4=>vX O<|vE hK4<|wT fun K5 hK5=>vX O<|vE hK5<|wQ fun K6 hK6=>wT fun K7 hK7=>vX O<|vE hK7<|wBk fun a hF=>?_
  have hA9:Hp w0 ([]::[row b4 27 (.int .i64 it.ct::dc it.ch)]::[row b1 25 (dc it.k)]::R) w7:=hA8
  refine bQ (G:=Nat × Bool × List Itm) (fun gh a x=>∃ (lv:Value) (XL:Seg),gh.1≤l.length∧gh.2.2.length≤gh.1+(if gh.2.1=true then 1 else 0)∧(insL it l=gh.2.2++(if gh.2.1=true then l.drop gh.1 else insL it (l.drop gh.1)))∧Buf 49 65 XL lv gh.2.2.length (cel Itm.cells gh.2.2)∧Fr 61 [(10,.int .i64 (gh.1:Int)),(9,.bool gh.2.1),(8,lv),(0,.slice A l.length c),(4,.pointer (some ⟨b1,0,none⟩)),(5,.pointer (some ⟨b4,0,none⟩))] a∧Hp w0 (XL::[row b4 27 (.int .i64 it.ct::dc it.ch)]::[row b1 25 (dc it.k)]::R) x) (fun gh=>l.length-gh.1) (0,false,[]) (⟨_,_,Tv _,(Tv _),(by show _=[]++(if false=true then _ else insL it (l.drop 0)); rw [if_neg Bool.false_ne_true,List.drop_zero]; rfl),(Buf.nil 49 65),hF.keep [10,9,8,0,4,5] rfl,hA9⟩) ?_
  clear hF
  rintro gh a w11 ⟨lv,XL,hn,hol,hin,hO,hF,hA10⟩
  obtain ⟨n,dn,out⟩:=gh
  simp only at hn hol hin hO hF
  apply wp_seq_k; intro K8 hK8
  refine wS hF fun K9 hK9=>vX O<|vX O<|vV O (aY O TT O O)<|vV O (aH O O O O O)<|vE hK9 fun a hF=>?_
  by_cases hlt:n<l.length
  ·refine aZ hF O (dB ag) ?_
   obtain ⟨i,hi⟩:∃ i,l[n]? = some i:=⟨_,List.getElem?_eq_getElem hlt⟩
   have hiK:=hI i (List.mem_of_getElem? hi)
   have hrb:=(fE hI hi).2
   obtain ⟨b,q,hAd,hc⟩:=hL.ne (i:=n*65) ag
   have hdr:l.drop n=i::l.drop (n+1):=by rw [List.drop_eq_getElem_cons hlt]; congr 1; exact Option.some.inj ((List.getElem?_eq_getElem hlt).symm.trans hi)
   rw [hdr] at hin
   cases dn
   ·rw [if_neg Bool.false_ne_true] at hin
    have hol:out.length≤n:=hol
    by_cases hls:nb i.k<nb it.k
    ·apply wp_skip
     refine hK8 _ _ ?_
     apply wp_seq_k; intro K10 hK10
     apply wp_block
     apply wp_seq_k; intro K11 hK11
     apply wp_seq_k; intro K12 hK12
     refine ak 11 [9,11] [0,1,2,3,4,5,6,7,8,9,10,11] _ af af (Hq.drew hA10.q) ?_
     have hA12:=Hl.drew hA10
     refine pR hF<|pX O O<|pW O O (fun _=>eU O O O)<|pX O O<|pG O O (fun _=>bT O O)<|pG O O (fun _=>bT O O)<|pG O O (fun _=>bi O TT kU (by exact congrArg (fun A=>some (Value.slice A l.length c)) hAd) rfl n rfl hlt rfl) fun a hF=>?_
     refine pR hF<|pG O O (fun _=>gm O TZ O uX ae rfl (rfl:(⟨_,_+_,none⟩:Addr)=⟨b,q+n*65+0,none⟩)) fun a hF=>?_
     refine dX hF O O O O O O O ae _ (fun x hx=>aQ O (Hq.sub hx (List.Subset.trans hG (aA (aA (aA (bu)))))) O hc (n*65) (by have:=(fE hI hi).2; omega) rfl (jM hI hi) vw) (fun a hF=>?_)
     refine dX hF O O O O O O O ae _ (fun x hx=>yZ (new:=dc it.k) rfl hx O 2 O vw hdk) (fun a hF=>?_)
     refine lX hF O O O O O O (fun K hK=>ax hF O ae zC rfl rfl ?_)
     with_reducible refine (Gl w0 _ (XL::[row b4 27 (.int .i64 it.ct::dc it.ch)]::[row b1 25 (dc it.k)]::R) i.k it.k hiK.k hx.k hA12).mono ?_
     rintro e' w13 ⟨rfl,hA14⟩
     refine ⟨_,rfl,fun a hF=>hK _ _ (fun _=>?_) ?_⟩
     ·exact hA14.q
     replace hA14:Hp w0 (XL::[row b4 27 (.int .i64 it.ct::dc it.ch)]::[row b1 25 (dc it.k)]::R) w13:=hA14
     rw [decide_eq_true hls] at hF
     refine pR hF<|pG O O (fun _=>eU O O O) fun a hF=>?_
     refine bY hF O O O O ae _ (bg O O O) (fun h=>absurd h ae) (fun a hF=>?_)
     refine aB ?_
     refine hK12 _ _ ?_
     refine dL hF O ?_
     apply wp_skip
     refine hK11 _ _ ?_
     refine wp_region_lit ?_
     refine vR hF<|vX O<|vX O<|vX O<|vV O (bi O TT kU (by exact congrArg (fun A=>some (Value.slice A l.length c)) hAd) rfl n rfl hlt rfl) fun a hF=>?_
     refine vR hF<|vV O (aQ O (Hq.sub hA14.q (List.Subset.trans hG (aA (aA (aA (bu)))))) O hc (n*65) (fE hI hi).2 rfl (fE hI hi).1 KL) fun a hF=>?_
     refine au O (fun K hK=>jY (qs := #[(0,.agg i.cells.toArray)]) (cells:=i.cells.toArray) hF O ae rfl hA14 O (by exact mg hiK) (fun b15 w16 a hb15 hF hA17=>hK _ _ ?_))
     refine au O (fun K hK=>dI hF O ae rfl hA17 1 O hO TT mf rfl rfl (Rc.srcC (W:=i.cells) (m:=1) (size:=65) (R:=[row b15 49 i.cells]::XL::[row b4 27 (.int .i64 it.ct::dc it.ch)]::[row b1 25 (dc it.k)]::R) (Rc.ofRow (i:=0) (off:=0) rfl (by rw [List.drop_zero]; exact List.take_length ..)) hA17.q TT ae (by rw [Itm.len hiK]) (Itm.one i)) ag ae (fun lv2 XL2 w18 a hO2 hF hA19=>hK _ _ ?_))
     replace hA19:Hp w0 ([row b15 49 i.cells]::XL2::[row b4 27 (.int .i64 it.ct::dc it.ch)]::[row b1 25 (dc it.k)]::R) w18:=hA19
     rw [← mO,show (out).length+1=(out++[i]).length from lZ _ _] at hO2
     refine vR hF<|vX O fun a hF=>az<|hK10 _ _ ?_
     refine wp_region_lit ?_
     refine vR hF<|vX O<|vV O (bH O O O (TB _ ag))<|vX O fun a hF=>?_
     refine az ?_
     have hA20:Hp w0 (XL2::[row b4 27 (.int .i64 it.ct::dc it.ch)]::[row b1 25 (dc it.k)]::R) w18:=hpS 4 [1,2,3] [0] hA19 rfl
     exact ⟨(n+1,false,out++[i]),(by show l.length-(n+1)<l.length-n; omega),_,_,(by show n+1≤l.length; omega),(by show (out++[i]).length≤n+1+0; simp only [List.length_append,List.length_cons,List.length_nil]; omega),(by rw [if_neg Bool.false_ne_true,hin]; show out++(if nb i.k<nb it.k then i::insL it (l.drop (n+1)) else _)=_; rw [if_pos hls]; simp),hO2,hF.keep [10,9,8,0,4,5] rfl,hA20⟩
    ·apply wp_skip
     refine hK8 _ _ ?_
     apply wp_seq_k; intro K13 hK13
     apply wp_block
     apply wp_seq_k; intro K14 hK14
     apply wp_seq_k; intro K15 hK15
     refine ak 11 [9,11] [0,1,2,3,4,5,6,7,8,9,10,11] _ af af (Hq.drew hA10.q) ?_
     have hA21:=Hl.drew hA10
     refine pR hF<|pX O O<|pW O O (fun _=>eU O O O)<|pX O O<|pG O O (fun _=>bT O O)<|pG O O (fun _=>bT O O)<|pG O O (fun _=>bi O TT kU (by exact congrArg (fun A=>some (Value.slice A l.length c)) hAd) rfl n rfl hlt rfl) fun a hF=>?_
     refine pR hF<|pG O O (fun _=>gm O TZ O uX ae rfl (rfl:(⟨_,_+_,none⟩:Addr)=⟨b,q+n*65+0,none⟩)) fun a hF=>?_
     refine dX hF O O O O O O O ae _ (fun x hx=>aQ O (Hq.sub hx (List.Subset.trans hG (aA (aA (aA (bu)))))) O hc (n*65) (by have:=(fE hI hi).2; omega) rfl (jM hI hi) vw) (fun a hF=>?_)
     refine dX hF O O O O O O O ae _ (fun x hx=>yZ (new:=dc it.k) rfl hx O 2 O vw hdk) (fun a hF=>?_)
     refine lX hF O O O O O O (fun K hK=>ax hF O ae zC rfl rfl ?_)
     with_reducible refine (Gl w0 _ (XL::[row b4 27 (.int .i64 it.ct::dc it.ch)]::[row b1 25 (dc it.k)]::R) i.k it.k hiK.k hx.k hA21).mono ?_
     rintro e' w22 ⟨rfl,hA23⟩
     refine ⟨_,rfl,fun a hF=>hK _ _ (fun _=>?_) ?_⟩
     ·exact hA23.q
     replace hA23:Hp w0 (XL::[row b4 27 (.int .i64 it.ct::dc it.ch)]::[row b1 25 (dc it.k)]::R) w22:=hA23
     rw [decide_eq_false hls] at hF
     refine pR hF<|pG O O (fun _=>eU O O O) fun a hF=>?_
     refine bY hF O O O O ae _ (bg O O O) (fun h=>absurd h ae) (fun a hF=>?_)
     refine aB ?_
     refine hK15 _ _ ?_
     refine eP hF O ?_
     refine wS hF fun K16 hK16=>vX O<|vV O (yZ (new:=dc it.k) rfl hA23.q O 2 O vw hdk)<|vV O (yZ (new:= .int .i64 it.ct::dc it.ch) rfl hA23.q O 1 O BN hde)<|vV O (dS (v:= .agg it.cells.toArray) (qs := #[(0,.agg (dc it.k).toArray),(1,.agg (.int .i64 it.ct::dc it.ch).toArray)]) O O (by exact Gi hx)) fun a hF=>?_
     refine au O (fun K hK=>jY (qs := #[(0,.agg it.cells.toArray)]) (cells:=it.cells.toArray) hF O ae rfl hA23 O (by exact mg hx) (fun b24 w25 a hb24 hF hA26=>hK _ _ ?_))
     refine au O (fun K hK=>dI hF O ae rfl hA26 1 O hO TT mf rfl rfl (Rc.srcC (W:=it.cells) (m:=1) (size:=65) (R:=[row b24 49 it.cells]::XL::[row b4 27 (.int .i64 it.ct::dc it.ch)]::[row b1 25 (dc it.k)]::R) (Rc.ofRow (i:=0) (off:=0) rfl (by rw [List.drop_zero]; exact List.take_length ..)) hA26.q TT ae (by rw [Itm.len hx]) (Itm.one it)) ag ae (fun lv2 XL2 w27 a hO2 hF hA28=>hK _ _ ?_))
     replace hA28:Hp w0 ([row b24 49 it.cells]::XL2::[row b4 27 (.int .i64 it.ct::dc it.ch)]::[row b1 25 (dc it.k)]::R) w27:=hA28
     rw [← mO,show (out).length+1=(out++[it]).length from lZ _ _] at hO2
     refine vR hF<|vX O<|vE hK16<|wT fun K17 hK17=>vX O<|vE hK17<|wQ fun K18 hK18 a hF=>?_
     by_cases hik:i.k=it.k
     ·refine ak 6 [6] [0,1,2,3,4,5,6] _ af af (Hq.drew hA28.q) ?_
      have hA29:=Hl.drew hA28
      refine pR hF<|pX O O<|pX O O<|pW O O (fun _=>bi O TT kU (by exact congrArg (fun A=>some (Value.slice A l.length c)) hAd) rfl n rfl hlt rfl) fun a hF=>?_
      refine pR hF<|pW O O (fun _=>gm O TZ O uX ae rfl (rfl:(⟨_,_+_,none⟩:Addr)=⟨b,q+n*65+0,none⟩))<|pV O O (fun x hx=>aQ O (Hq.sub hx (List.Subset.trans hG (aA (aA (aA (aA (bu))))))) O hc (n*65) (by have:=(fE hI hi).2; omega) rfl (jM hI hi) vw)<|pV O O (fun x hx=>yZ (new:=dc it.k) rfl hx O 3 O vw hdk) fun a hF=>?_
      refine bY hF O O O O ae _ (oM O Tz TA D5 af rfl rfl hiK.k hx.k (decide_eq_true hik)) (fun h=>absurd h ae) (fun a hF=>?_)
      refine aB ?_
      refine hK18 _ _ ?_
      refine eP hF O ?_
      apply wp_exit
      refine hK13 _ _ ?_
      refine wp_region_lit ?_
      refine vR hF<|vX O<|vV O (bH O O O (TB _ ag))<|vX O fun a hF=>?_
      refine az ?_
      have hA30:Hp w0 (XL2::[row b4 27 (.int .i64 it.ct::dc it.ch)]::[row b1 25 (dc it.k)]::R) w27.drew:=hpS 4 [1,2,3] [0] hA29 rfl
      exact ⟨(n+1,true,out++[it]),(by show l.length-(n+1)<l.length-n; omega),_,_,(by show n+1≤l.length; omega),(by show (out++[it]).length≤n+1+1; simp only [List.length_append,List.length_cons,List.length_nil]; omega),(by rw [if_pos rfl,hin]; show out++(if nb i.k<nb it.k then _ else if nb i.k=nb it.k then it::l.drop (n+1) else _)=_; rw [if_neg hls,if_pos (by rw [hik])]; simp),hO2,hF.keep [10,9,8,0,4,5] rfl,hA30⟩
     ·refine ak 6 [6] [0,1,2,3,4,5,6] _ af af (Hq.drew hA28.q) ?_
      have hA31:=Hl.drew hA28
      refine pR hF<|pX O O<|pX O O<|pW O O (fun _=>bi O TT kU (by exact congrArg (fun A=>some (Value.slice A l.length c)) hAd) rfl n rfl hlt rfl) fun a hF=>?_
      refine pR hF<|pW O O (fun _=>gm O TZ O uX ae rfl (rfl:(⟨_,_+_,none⟩:Addr)=⟨b,q+n*65+0,none⟩))<|pV O O (fun x hx=>aQ O (Hq.sub hx (List.Subset.trans hG (aA (aA (aA (aA (bu))))))) O hc (n*65) (by have:=(fE hI hi).2; omega) rfl (jM hI hi) vw)<|pV O O (fun x hx=>yZ (new:=dc it.k) rfl hx O 3 O vw hdk) fun a hF=>?_
      refine bY hF O O O O ae _ (oM O Tz TA D5 af rfl rfl hiK.k hx.k (decide_eq_false hik)) (fun h=>absurd h ae) (fun a hF=>?_)
      refine aB ?_
      refine hK18 _ _ ?_
      refine dL hF O ?_
      have hol2:(out++[it]).length≤n+2:=by rw [List.length_append]; show out.length+1≤n+2; omega
      apply wp_skip
      refine hK14 _ _ ?_
      refine wp_region_lit ?_
      refine vR hF<|vX O<|vX O<|vX O<|vV O (bi O TT kU (by exact congrArg (fun A=>some (Value.slice A l.length c)) hAd) rfl n rfl hlt rfl) fun a hF=>?_
      refine vR hF<|vV O (aQ O (Hq.sub hA31.q (List.Subset.trans hG (aA (aA (aA (aA (bu))))))) O hc (n*65) (fE hI hi).2 rfl (fE hI hi).1 KL) fun a hF=>?_
      refine au O (fun K hK=>jY (qs := #[(0,.agg i.cells.toArray)]) (cells:=i.cells.toArray) hF O ae rfl hA31 O (by exact mg hiK) (fun b32 w33 a hb32 hF hA34=>hK _ _ ?_))
      refine au O (fun K hK=>dI hF O ae rfl hA34 2 O hO2 TT mf rfl rfl (Rc.srcC (W:=i.cells) (m:=1) (size:=65) (R:=[row b32 49 i.cells]::[row b24 49 it.cells]::XL2::[row b4 27 (.int .i64 it.ct::dc it.ch)]::[row b1 25 (dc it.k)]::R) (Rc.ofRow (i:=0) (off:=0) rfl (by rw [List.drop_zero]; exact List.take_length ..)) hA34.q TT ae (by rw [Itm.len hiK]) (Itm.one i)) ag ae (fun lv3 XL3 w35 a hO3 hF hA36=>hK _ _ ?_))
      replace hA36:Hp w0 ([row b32 49 i.cells]::[row b24 49 it.cells]::XL3::[row b4 27 (.int .i64 it.ct::dc it.ch)]::[row b1 25 (dc it.k)]::R) w35:=hA36
      rw [← mO,show (out++[it]).length+1=(out++[it]++[i]).length from lZ _ _] at hO3
      refine vR hF<|vX O fun a hF=>az<|hK13 _ _ ?_
      refine wp_region_lit ?_
      refine vR hF<|vX O<|vV O (bH O O O (TB _ ag))<|vX O fun a hF=>?_
      refine az ?_
      have hA37:Hp w0 (XL3::[row b4 27 (.int .i64 it.ct::dc it.ch)]::[row b1 25 (dc it.k)]::R) w35:=hpS 5 [2,3,4] [0,1] hA36 rfl
      exact ⟨(n+1,true,out++[it]++[i]),(by show l.length-(n+1)<l.length-n; omega),_,_,(by show n+1≤l.length; omega),(by show (out++[it]++[i]).length≤n+1+1; simp only [List.length_append,List.length_cons,List.length_nil]; omega),(by rw [if_pos rfl,hin]; show out++(if nb i.k<nb it.k then _ else if nb i.k=nb it.k then _ else it::i::l.drop (n+1))=_; rw [if_neg hls,if_neg (fun e=>hik ((IQ hiK.k hx.k).1 e))]; simp),hO3,hF.keep [10,9,8,0,4,5] rfl,hA37⟩
   ·rw [if_pos rfl] at hin
    have hol:out.length≤n+1:=hol
    apply wp_skip
    refine hK8 _ _ ?_
    apply wp_seq_k; intro K19 hK19
    apply wp_block
    apply wp_seq_k; intro K20 hK20
    apply wp_seq_k; intro K21 hK21
    refine ak 11 [9,11] [0,1,2,3,4,5,6,7,8,9,10,11] _ af af (Hq.drew hA10.q) ?_
    have hA38:=Hl.drew hA10
    refine pR hF<|pX O O<|pW O O (fun _=>eU O O O)<|pX O O<|pS O O<|pS O O<|pS O O<|pS O O<|pS O O<|pS O O fun a hF=>?_
    refine vW hF O O O O O O O O ae (hA38.q) (fun a hF=>?_)
    refine pR hF<|pS O O fun a hF=>?_
    refine bY hF O O O O ae _ (bg O O O) (fun h=>absurd h ae) (fun a hF=>?_)
    refine aB ?_
    refine hK21 _ _ ?_
    refine dL hF O ?_
    apply wp_skip
    refine hK20 _ _ ?_
    refine wp_region_lit ?_
    refine vR hF<|vX O<|vX O<|vX O<|vV O (bi O TT kU (by exact congrArg (fun A=>some (Value.slice A l.length c)) hAd) rfl n rfl hlt rfl) fun a hF=>?_
    refine vR hF<|vV O (aQ O (Hq.sub hA38.q (List.Subset.trans hG (aA (aA (aA (bu)))))) O hc (n*65) (fE hI hi).2 rfl (fE hI hi).1 KL) fun a hF=>?_
    refine au O (fun K hK=>jY (qs := #[(0,.agg i.cells.toArray)]) (cells:=i.cells.toArray) hF O ae rfl hA38 O (by exact mg hiK) (fun b39 w40 a hb39 hF hA41=>hK _ _ ?_))
    refine au O (fun K hK=>dI hF O ae rfl hA41 1 O hO TT mf rfl rfl (Rc.srcC (W:=i.cells) (m:=1) (size:=65) (R:=[row b39 49 i.cells]::XL::[row b4 27 (.int .i64 it.ct::dc it.ch)]::[row b1 25 (dc it.k)]::R) (Rc.ofRow (i:=0) (off:=0) rfl (by rw [List.drop_zero]; exact List.take_length ..)) hA41.q TT ae (by rw [Itm.len hiK]) (Itm.one i)) ag ae (fun lv2 XL2 w42 a hO2 hF hA43=>hK _ _ ?_))
    replace hA43:Hp w0 ([row b39 49 i.cells]::XL2::[row b4 27 (.int .i64 it.ct::dc it.ch)]::[row b1 25 (dc it.k)]::R) w42:=hA43
    rw [← mO,show (out).length+1=(out++[i]).length from lZ _ _] at hO2
    refine vR hF<|vX O fun a hF=>az<|hK19 _ _ ?_
    refine wp_region_lit ?_
    refine vR hF<|vX O<|vV O (bH O O O (TB _ ag))<|vX O fun a hF=>?_
    refine az ?_
    have hA44:Hp w0 (XL2::[row b4 27 (.int .i64 it.ct::dc it.ch)]::[row b1 25 (dc it.k)]::R) w42:=hpS 4 [1,2,3] [0] hA43 rfl
    exact ⟨(n+1,true,out++[i]),(by show l.length-(n+1)<l.length-n; omega),_,_,(by show n+1≤l.length; omega),(by show (out++[i]).length≤n+1+1; simp only [List.length_append,List.length_cons,List.length_nil]; omega),(by rw [if_pos rfl,hin]; simp),hO2,hF.keep [10,9,8,0,4,5] rfl,hA44⟩
  ·refine aS hF O (dD ag) ?_
   obtain rfl:n=l.length:=by omega
   rw [List.drop_length] at hin
   cases dn
   ·rw [if_neg Bool.false_ne_true] at hin
    have hol:out.length≤l.length:=hol
    apply wp_exit
    refine hK6 _ _ ?_
    apply wp_seq_k; intro K22 hK22
    refine wS hF fun K23 hK23=>vX O<|vV O (eU O O O)<|vE hK23<|vT1 O fun a hF=>?_
    refine wp_region_lit ?_
    refine vR hF<|vX O<|vV O (yZ (new:=dc it.k) rfl hA10.q O 2 O vw hdk)<|vV O (yZ (new:= .int .i64 it.ct::dc it.ch) rfl hA10.q O 1 O BN hde)<|vV O (dS (v:= .agg it.cells.toArray) (qs := #[(0,.agg (dc it.k).toArray),(1,.agg (.int .i64 it.ct::dc it.ch).toArray)]) O O (by exact Gi hx)) fun a hF=>?_
    refine au O (fun K hK=>jY (qs := #[(0,.agg it.cells.toArray)]) (cells:=it.cells.toArray) hF O ae rfl hA10 O (by exact mg hx) (fun b45 w46 a hb45 hF hA47=>hK _ _ ?_))
    refine au O (fun K hK=>dI hF O ae rfl hA47 1 O hO TT mf rfl rfl (Rc.srcC (W:=it.cells) (m:=1) (size:=65) (R:=[row b45 49 it.cells]::XL::[row b4 27 (.int .i64 it.ct::dc it.ch)]::[row b1 25 (dc it.k)]::R) (Rc.ofRow (i:=0) (off:=0) rfl (by rw [List.drop_zero]; exact List.take_length ..)) hA47.q TT ae (by rw [Itm.len hx]) (Itm.one it)) ag ae (fun lv2 XL2 w48 a hO2 hF hA49=>hK _ _ ?_))
    replace hA49:Hp w0 ([row b45 49 it.cells]::XL2::[row b4 27 (.int .i64 it.ct::dc it.ch)]::[row b1 25 (dc it.k)]::R) w48:=hA49
    rw [← mO,show (out).length+1=(out++[it]).length from lZ _ _] at hO2
    refine vR hF<|vX O<|vE hK22<|wT fun K24 hK24=>vX O<|vX O<|vX O<|vE hK24 fun a hF=>?_
    apply wp_ret
    refine jr hF Tryz.results31 O O ?_
    have hA50:Hp w0 (XL2::R) w48:=hpS 4 [1] [0,2,3] hA49 rfl
    have hin2:insL it l=out++[it]:=hin
    rw [← hin2] at hO2
    rw [if_pos hok,if_pos hok]
    exact ⟨_,_,rfl,hO2,hA50⟩
   ·rw [if_pos rfl,List.append_nil] at hin
    apply wp_exit
    refine hK6 _ _ ?_
    apply wp_seq_k; intro K25 hK25
    refine wS hF fun K26 hK26=>vX O<|vV O (eU O O O)<|vE hK26<|vF1 O<|wKp hK25<|wT fun K27 hK27=>vX O<|vX O<|vX O<|vE hK27 fun a hF=>?_
    apply wp_ret
    refine jr hF Tryz.results31 O O ?_
    have hA51:Hp w0 (XL::R) w11:=hpS 3 [0] [1,2] hA10 rfl
    rw [← hin] at hO
    rw [if_pos hok,if_pos hok]
    exact ⟨_,_,rfl,hO,hA51⟩
 ·refine wp_region_lit ?_
  refine vR hF<|vV O (yZ (new:= .int .i64 it.ct::dc it.ch) rfl hA6.q O 0 O BN hde) fun a hF=>?_
  refine au O (fun K hK=>ax hF O ae sW rfl rfl ?_)
  with_reducible refine (nN w0 _ ([row b4 27 (.int .i64 it.ct::dc it.ch)]::[row b1 25 (dc it.k)]::R) it.ct it.ch hA6).mono ?_
  rintro e' w52 ⟨rfl,hA53⟩
  refine ⟨_,rfl,fun a hF=>hK _ _ ?_⟩
  replace hA53:Hp w0 ([row b4 27 (.int .i64 it.ct::dc it.ch)]::[row b1 25 (dc it.k)]::R) w52:=hA53
  rw [decide_eq_false hct] at hF
  refine vR hF<|vV O (eU O O O) fun a hF=>az<|hK3 _ _ ?_
  refine eP hF O ?_
  refine wS hF fun K28 hK28=>vX O<|vX O<|vE hK28 fun a hF=>?_
  apply wp_ret
  simp only [Exit.then]
  refine jr hF Tryz.results31 O O ?_
  have hA54:Hp w0 (R) w52:=hpS 2 [] [0,1] hA53 rfl
  have hok:¬ okC it=true:=by rw [Pe,decide_eq_false hct]; exact Bool.false_ne_true
  rw [if_neg hok,if_neg hok]
  exact ⟨_,[],rfl,Buf.nil 49 65,hA54⟩
theorem Lm (w0 w:World) (R G:List Seg) (hG:G⊆R) (A:Option Addr) (l:List Itm) (c:Nat) (hlc:l.length≤c) (hcm:l.length≤100000) (hI:∀ i∈l,i.OK) (hL:Rc w0 G A (cel Itm.cells l)) (hA:Hp w0 R w):Calls Tryz.prog 28 #[.slice A l.length c] w fun e w'=>∃ v X,e= .returned (.tuple #[v,.int .i64 (((jm [] l).1:Nat):Int)])∧Buf 49 65 X v (jm [] l).2.length (cel Itm.cells (jm [] l).2)∧Hp w0 (X::R) w':=by
 refine aJ Tryz.func28 O Tryz.ntmps28 ai (fun a hF=>?_)
 refine wS hF fun K1 hK1=>vX O<|vX O<|vE hK1<|wT fun K2 hK2=>vX O<|vE hK2<|wQ fun K3 hK3=>wT fun K4 hK4=>vX O<|vE hK4<|wBk fun a hF=>?_
 have hA1:Hp w0 ([]::R) w:=hA
 refine bQ (G:=Nat × List Itm) (fun gh a x=>∃ (lv:Value) (XL:Seg),gh.1≤l.length∧gh.2.length≤gh.1∧(∀ i∈gh.2,i.OK)∧jm [] l=jm gh.2 (l.drop gh.1)∧Buf 49 65 XL lv gh.2.length (cel Itm.cells gh.2)∧Fr 48 [(5,.int .i64 (gh.1:Int)),(4,lv),(0,.slice A l.length c)] a∧Hp w0 (XL::R) x) (fun gh=>l.length-gh.1) (0,[]) (⟨_,_,Tv _,(Tv _),(fun i hi=>by cases hi),(by show jm [] l=jm [] (l.drop 0); rw [List.drop_zero]),(Buf.nil 49 65),hF.keep [5,4,0] rfl,hA1⟩) ?_
 clear hF
 rintro gh a w3 ⟨lv,XL,hn,hol,hoK,hbl,hO,hF,hA2⟩
 obtain ⟨n,acc⟩:=gh
 simp only at hn hol hoK hbl hO hF
 apply wp_seq_k; intro K5 hK5
 refine wS hF fun K6 hK6=>vX O<|vX O<|vV O (aY O TT O O)<|vV O (aH O O O O O)<|vE hK6 fun a hF=>?_
 by_cases hlt:n<l.length
 ·refine aZ hF O (dB ag) ?_
  obtain ⟨i,hi⟩:∃ i,l[n]? = some i:=⟨_,List.getElem?_eq_getElem hlt⟩
  have hiK:=hI i (List.mem_of_getElem? hi)
  have hrb:=(fE hI hi).2
  obtain ⟨b,q,hAd,hc⟩:=hL.ne (i:=n*65) ag
  have hdr:l.drop n=i::l.drop (n+1):=by rw [List.drop_eq_getElem_cons hlt]; congr 1; exact Option.some.inj ((List.getElem?_eq_getElem hlt).symm.trans hi)
  have hFn:=hF
  obtain ⟨AO,cO,rfl,hcO,hRO⟩:=hO.rc (w0:=w0) (R:=[XL]) (TF ..)
  have hF:=hFn
  by_cases hct:1≤i.ct∧i.ct≤1099511627776
  ·apply wp_skip
   refine hK5 _ _ ?_
   apply wp_seq_k; intro K7 hK7
   apply wp_block
   apply wp_seq_k; intro K8 hK8
   refine wS hF fun K9 hK9=>vX O<|vX O<|vV O (bi O TT kU (by exact congrArg (fun A=>some (Value.slice A l.length c)) hAd) rfl n rfl hlt rfl) fun a hF=>?_
   refine vR hF<|vV O (gm O TZ O Bz ae rfl (rfl:(⟨_,_+_,none⟩:Addr)=⟨b,q+n*65+32,none⟩))<|vV O (aQ O (Hq.sub hA2.q (List.Subset.trans hG (aA (bu)))) O hc (n*65+32) (by have:=(fE hI hi).2; omega) ag (xg hI hi) BN) fun a hF=>?_
   refine au O (fun K hK=>ax hF O ae sW rfl rfl ?_)
   with_reducible refine (nN w0 _ (XL::R) i.ct i.ch hA2).mono ?_
   rintro e' w4 ⟨rfl,hA5⟩
   refine ⟨_,rfl,fun a hF=>hK _ _ ?_⟩
   replace hA5:Hp w0 (XL::R) w4:=hA5
   rw [decide_eq_true hct] at hF
   refine vR hF<|vV O (eU O O O)<|vE hK9<|vF1 O fun a hF=>?_
   have hok:okC i=true:=decide_eq_true hct
   have hch:=jR hoK i.k
   have hel:(Value.int .i64 (dF acc i.k)::dc (dC acc i.k)).length=33:=by rw [List.length_cons,aj,hch]
   by_cases hh:hasK acc i.k=true
   ·have hss:(gX acc i.k).isSome=true:=by rw [sJ]; exact hh
    apply wp_skip
    refine hK8 _ _ ?_
    refine wS hF fun K10 hK10=>vX O<|vX O<|vX O<|vV O (bi O TT kU (by exact congrArg (fun A=>some (Value.slice A l.length c)) hAd) rfl n rfl hlt rfl) fun a hF=>?_
    refine vR hF<|vV O (gm O TZ O uX ae rfl (rfl:(⟨_,_+_,none⟩:Addr)=⟨b,q+n*65+0,none⟩))<|vV O (aQ O (Hq.sub hA5.q (List.Subset.trans hG (aA (bu)))) O hc (n*65) (by have:=(fE hI hi).2; omega) rfl (jM hI hi) vw) fun a hF=>?_
    refine au O (fun K hK=>ax hF O ae xR rfl rfl ?_)
    with_reducible refine (EI w0 _ (XL::R) [XL] (dZ ((TF ..))) AO acc cO hcO ag hoK hRO i.k hiK.k hA5).mono ?_
    rintro e' w6 ⟨rfl,hA7⟩
    refine ⟨_,rfl,fun a hF=>hK _ _ ?_⟩
    replace hA7:Hp w0 (XL::R) w6:=hA7
    rw [hss] at hF
    refine vR hF<|vX O<|vV O (cu (v:= .agg (.int .i64 (dF acc i.k)::dc (dC acc i.k)).toArray) rfl rfl rfl)<|vV O (cu (v:= .bool true) rfl rfl rfl) fun a hF=>?_
    refine au O (fun K hK=>bG hF O ae rfl hA7 (Bd) (fun b8 w9 a hb8 hF hA10=>hK _ _ ?_))
    refine au O (fun K hK=>aI (new:= .int .i64 (dF acc i.k)::dc (dC acc i.k)) hF O O hA10 O O 0 O (by rw [hel]; rfl) (jS _ _) Bz (fun w11 hA12=>hK _ _ ?_))
    replace hA12:Hp w0 ([row b8 27 (.int .i64 (dF acc i.k)::dc (dC acc i.k))]::XL::R) w11:=hA12
    refine vR hF<|vX O<|vE hK10<|wQ fun K11 hK11=>wT fun K12 hK12=>vX O<|vE hK12<|vT1 O<|wT fun K13 hK13=>vX O<|vX O<|vE hK13 fun a hF=>?_
    apply wp_ret
    simp only [Exit.then,Exit.inBlock]
    refine jr hF Tryz.results28 O O ?_
    have hA13:Hp w0 (XL::R) w11:=hpS 2 [1] [0] hA12 rfl
    have hre:jm [] l=(92,[]):=by rw [hbl,hdr]; unfold jm; rw [if_pos hok,if_pos hh]
    rw [hre]
    exact ⟨_,[],rfl,Buf.nil 49 65,hA13.tail⟩
   ·have hss:(gX acc i.k).isSome=false:=by rw [sJ]; simpa using hh
    apply wp_skip
    refine hK8 _ _ ?_
    refine wS hF fun K14 hK14=>vX O<|vX O<|vX O<|vV O (bi O TT kU (by exact congrArg (fun A=>some (Value.slice A l.length c)) hAd) rfl n rfl hlt rfl) fun a hF=>?_
    refine vR hF<|vV O (gm O TZ O uX ae rfl (rfl:(⟨_,_+_,none⟩:Addr)=⟨b,q+n*65+0,none⟩))<|vV O (aQ O (Hq.sub hA5.q (List.Subset.trans hG (aA (bu)))) O hc (n*65) (by have:=(fE hI hi).2; omega) rfl (jM hI hi) vw) fun a hF=>?_
    refine au O (fun K hK=>ax hF O ae xR rfl rfl ?_)
    with_reducible refine (EI w0 _ (XL::R) [XL] (dZ ((TF ..))) AO acc cO hcO ag hoK hRO i.k hiK.k hA5).mono ?_
    rintro e' w14 ⟨rfl,hA15⟩
    refine ⟨_,rfl,fun a hF=>hK _ _ ?_⟩
    replace hA15:Hp w0 (XL::R) w14:=hA15
    rw [hss] at hF
    refine vR hF<|vX O<|vV O (cu (v:= .agg (.int .i64 (dF acc i.k)::dc (dC acc i.k)).toArray) rfl rfl rfl)<|vV O (cu (v:= .bool false) rfl rfl rfl) fun a hF=>?_
    refine au O (fun K hK=>bG hF O ae rfl hA15 (Bd) (fun b16 w17 a hb16 hF hA18=>hK _ _ ?_))
    refine au O (fun K hK=>aI (new:= .int .i64 (dF acc i.k)::dc (dC acc i.k)) hF O O hA18 O O 0 O (by rw [hel]; rfl) (jS _ _) Bz (fun w19 hA20=>hK _ _ ?_))
    replace hA20:Hp w0 ([row b16 27 (.int .i64 (dF acc i.k)::dc (dC acc i.k))]::XL::R) w19:=hA20
    refine vR hF<|vX O<|vE hK14<|wQ fun K15 hK15=>wT fun K16 hK16=>vX O<|vE hK16<|vF1 O<|wKp hK15 fun a hF=>?_
    refine uK 16 [11] [0,1,2,3,4,5,6,7,8,9,10,11,12,13,14,15] _ af af (Hq.drew hA20.q) ?_
    have hA21:=Hl.drew hA20
    refine pR hF<|pX O O<|pX O O<|pX O O<|pW O O (fun _=>bi O TT kU (by exact congrArg (fun A=>some (Value.slice A l.length c)) hAd) rfl n rfl hlt rfl) fun a hF=>?_
    refine pR hF<|pW O O (fun _=>gm O TZ O uX ae rfl (rfl:(⟨_,_+_,none⟩:Addr)=⟨b,q+n*65+0,none⟩))<|pV O O (fun x hx=>aQ O (Hq.sub hx (List.Subset.trans hG (aA (aA (bu))))) O hc (n*65) (by have:=(fE hI hi).2; omega) rfl (jM hI hi) vw)<|pX O O<|pX O O<|pW O O (fun _=>bi O TT kU (by exact congrArg (fun A=>some (Value.slice A l.length c)) hAd) rfl n rfl hlt rfl) fun a hF=>?_
    refine pR hF<|pW O O (fun _=>gm O TZ O Bz ae rfl (rfl:(⟨_,_+_,none⟩:Addr)=⟨b,q+n*65+32,none⟩))<|pV O O (fun x hx=>aQ O (Hq.sub hx (List.Subset.trans hG (aA (aA (bu))))) O hc (n*65+32) (by have:=(fE hI hi).2; omega) ag (xg hI hi) BN) fun a hF=>?_
    refine bM O O O (fun K hK=>ax hF O ae MW rfl rfl ?_)
    with_reducible refine (Lj w0 _ ([row b16 27 (.int .i64 (dF acc i.k)::dc (dC acc i.k))]::XL::R) [XL] (dZ (TI _ ((TF ..)))) AO acc cO hcO ag hoK hRO i hiK hA21).mono ?_
    rintro e' w22 ⟨lv2,XL2,rfl,hO2,hA23⟩
    refine ⟨_,rfl,fun a hF=>hK _ _ (fun _=>?_) ?_⟩
    ·exact (qT hA23)
    replace hA23:Hp w0 (XL2::[row b16 27 (.int .i64 (dF acc i.k)::dc (dC acc i.k))]::XL::R) w22:=hA23
    rw [if_pos hok] at hF hO2
    refine pR hF<|pX O O<|pW O O (fun _=>cu (v:=lv2) rfl rfl rfl)<|pW O O (fun _=>cu (v:= .int .i64 0) rfl rfl rfl)<|pX O O fun a hF=>?_
    refine aB ?_
    refine hK7 _ _ ?_
    refine wp_region_lit ?_
    refine vR hF<|vX O<|vV O (bH O O O (TB _ ag))<|vX O fun a hF=>?_
    refine az ?_
    have hle:=sF (i:=i) acc
    have hA24:Hp w0 (XL2::R) w22:=hpS 3 [0] [1,2] hA23 rfl
    exact ⟨(n+1,insL i acc),(by show l.length-(n+1)<l.length-n; omega),_,_,(by show n+1≤l.length; omega),(by show (insL i acc).length≤n+1; omega),Po hiK hoK,(by rw [hbl,hdr]; show (if okC i=true then (if hasK acc i.k=true then _ else _) else _)=_; rw [if_pos hok,if_neg hh]),hO2,hF.keep [5,4,0] rfl,hA24⟩
  ·apply wp_skip
   refine hK5 _ _ ?_
   apply wp_seq_k; intro K17 hK17
   apply wp_block
   apply wp_seq_k; intro K18 hK18
   refine wS hF fun K19 hK19=>vX O<|vX O<|vV O (bi O TT kU (by exact congrArg (fun A=>some (Value.slice A l.length c)) hAd) rfl n rfl hlt rfl) fun a hF=>?_
   refine vR hF<|vV O (gm O TZ O Bz ae rfl (rfl:(⟨_,_+_,none⟩:Addr)=⟨b,q+n*65+32,none⟩))<|vV O (aQ O (Hq.sub hA2.q (List.Subset.trans hG (aA (bu)))) O hc (n*65+32) (by have:=(fE hI hi).2; omega) ag (xg hI hi) BN) fun a hF=>?_
   refine au O (fun K hK=>ax hF O ae sW rfl rfl ?_)
   with_reducible refine (nN w0 _ (XL::R) i.ct i.ch hA2).mono ?_
   rintro e' w25 ⟨rfl,hA26⟩
   refine ⟨_,rfl,fun a hF=>hK _ _ ?_⟩
   replace hA26:Hp w0 (XL::R) w25:=hA26
   rw [decide_eq_false hct] at hF
   refine vR hF<|vV O (eU O O O)<|vE hK19<|vT1 O<|wT fun K20 hK20=>vX O<|vX O<|vE hK20 fun a hF=>?_
   apply wp_ret
   simp only [Exit.then,Exit.inBlock]
   refine jr hF Tryz.results28 O O ?_
   have hre:jm [] l=(8,[]):=by rw [hbl,hdr]; unfold jm; rw [if_neg (by unfold okC; rw [decide_eq_false hct]; exact Bool.false_ne_true)]
   rw [hre]
   exact ⟨_,[],rfl,Buf.nil 49 65,hA26.tail⟩
 ·refine aS hF O (dD ag) ?_
  obtain rfl:n=l.length:=by omega
  rw [List.drop_length] at hbl
  have hre:jm [] l=(0,acc):=hbl
  apply wp_exit
  refine hK3 _ _ ?_
  refine wS hF fun K21 hK21=>vX O<|vX O<|vX O<|vE hK21 fun a hF=>?_
  apply wp_ret
  refine jr hF Tryz.results28 O O ?_
  rw [hre]
  exact ⟨_,_,rfl,hO,hA2⟩
theorem Ik (w0 w:World) (R G:List Seg) (hG:G⊆R) (A:Option Addr) (l:List Itm) (c:Nat) (hlc:l.length≤c) (hcm:l.length≤100000) (hI:∀ i∈l,i.OK) (hL:Rc w0 G A (cel Itm.cells l)) (k:List UInt8) (hk:k.length=32) (h:Nat) (hh:h<256) (hA:Hp w0 R w):Calls Tryz.prog 41 #[.slice A l.length c,.agg (dc k).toArray,.int .i64 ((256-h:Nat):Int)] w fun e w'=>∃ v X,e= .returned v∧Buf 49 65 X v (iC k h l).length (cel Itm.cells (iC k h l))∧Hp w0 (X::R) w':=by
 have hdk:(dc k).length=32:=by rw [aj,hk]
 have hJ:255-h<256:=by omega
 refine aJ Tryz.func41 O Tryz.ntmps41 ai (fun a hF=>?_)
 refine wp_seq_k fun K1 hK1=>wp_region_lit ?_
 refine au O (fun K hK=>bC (cs:=dc k) hF O ae rfl hA O (fun b1 w2 a hb1 hF hA3=>hK _ _ ?_))
 refine vR hF<|vX O<|vE hK1<|wT fun K2 hK2=>vX O<|vE hK2<|wQ fun K3 hK3=>wT fun K4 hK4=>vX O<|vE hK4<|wBk fun a hF=>?_
 have hA4:Hp w0 ([]::[row b1 25 (dc k)]::R) w2:=hA3
 refine bQ (G:=Nat × List Itm) (fun gh a x=>∃ (lv:Value) (XL:Seg),gh.1≤l.length∧gh.2.length≤gh.1∧iC k h l=gh.2++iC k h (l.drop gh.1)∧Buf 49 65 XL lv gh.2.length (cel Itm.cells gh.2)∧Fr 59 [(8,.int .i64 (gh.1:Int)),(7,lv),(0,.slice A l.length c),(2,.int .i64 ((256-h:Nat):Int)),(4,.pointer (some ⟨b1,0,none⟩))] a∧Hp w0 (XL::[row b1 25 (dc k)]::R) x) (fun gh=>l.length-gh.1) (0,[]) (⟨_,_,Tv _,(Tv _),(by show iC k h l=[]++iC k h (l.drop 0); rw [List.drop_zero]; rfl),(Buf.nil 49 65),hF.keep [8,7,0,2,4] rfl,hA4⟩) ?_
 clear hF
 rintro gh a w6 ⟨lv,XL,hn,hol,hof,hO,hF,hA5⟩
 obtain ⟨n,out⟩:=gh
 simp only at hn hol hof hO hF
 apply wp_seq_k; intro K5 hK5
 refine wS hF fun K6 hK6=>vX O<|vX O<|vV O (aY O TT O O)<|vV O (aH O O O O O)<|vE hK6 fun a hF=>?_
 by_cases hlt:n<l.length
 ·refine aZ hF O (dB ag) ?_
  obtain ⟨i,hi⟩:∃ i,l[n]? = some i:=⟨_,List.getElem?_eq_getElem hlt⟩
  have hiK:=hI i (List.mem_of_getElem? hi)
  have hrb:=(fE hI hi).2
  obtain ⟨b,q,hAd,hc⟩:=hL.ne (i:=n*65) ag
  have hdr:l.drop n=i::l.drop (n+1):=by rw [List.drop_eq_getElem_cons hlt]; congr 1; exact Option.some.inj ((List.getElem?_eq_getElem hlt).symm.trans hi)
  apply wp_skip
  refine hK5 _ _ ?_
  apply wp_seq_k; intro K7 hK7
  apply wp_block
  apply wp_seq_k; intro K8 hK8
  refine ak 13 [7,11,13] [0,1,2,3,4,5,6,8,9,10,7,11,12,13] _ af af (Hq.drew hA5.q) ?_
  have hA7:=Hl.drew hA5
  refine pR hF<|pX O O<|pX O O<|pW O O (fun _=>bi O TT kU (by exact congrArg (fun A=>some (Value.slice A l.length c)) hAd) rfl n rfl hlt rfl) fun a hF=>?_
  refine pR hF<|pW O O (fun _=>gm O TZ O uX ae rfl (rfl:(⟨_,_+_,none⟩:Addr)=⟨b,q+n*65+0,none⟩))<|pV O O (fun x hx=>aQ O (Hq.sub hx (List.Subset.trans hG (aA (aA (bu))))) O hc (n*65) (by have:=(fE hI hi).2; omega) rfl (jM hI hi) vw)<|pX O O<|pW O O (fun _=>dm O O O (show IntKind.i64.wrap (((256-h:Nat):Int)-1)=((255-h:Nat):Int) by rw [TB _ ag]; omega)) fun a hF=>?_
  refine pR hF<|pV O O (fun x hx=>yZ (new:=dc k) rfl hx O 1 O vw hdk)<|pX O O<|pW O O (fun _=>dm O O O (show IntKind.i64.wrap (((256-h:Nat):Int)-1)=((255-h:Nat):Int) by rw [TB _ ag]; omega)) fun a hF=>?_
  refine bM O O O (fun K hK=>ax hF O ae DN rfl rfl ?_)
  with_reducible refine (ng w0 _ (XL::[row b1 25 (dc k)]::R) i.k (255-h) hiK.k hJ hA7).mono ?_
  rintro e' w8 ⟨rfl,hA9⟩
  refine ⟨_,rfl,fun a hF=>hK _ _ (fun _=>?_) ?_⟩
  ·exact hA9.q
  replace hA9:Hp w0 (XL::[row b1 25 (dc k)]::R) w8:=hA9
  refine bM O O O (fun K hK=>ax hF O ae DN rfl rfl ?_)
  with_reducible refine (ng w0 _ (XL::[row b1 25 (dc k)]::R) k (255-h) hk hJ hA9).mono ?_
  rintro e' w10 ⟨rfl,hA11⟩
  refine ⟨_,rfl,fun a hF=>hK _ _ (fun _=>?_) ?_⟩
  ·exact hA11.q
  replace hA11:Hp w0 (XL::[row b1 25 (dc k)]::R) w10:=hA11
  refine pR hF<|pW O O (fun _=>aH O O O O (Sj _ _)) fun a hF=>?_
  refine bY hF O O O O ae _ (bJ O O) (fun h=>absurd h ae) (fun a hF=>?_)
  refine aB ?_
  refine hK8 _ _ ?_
  apply wp_seq_k; intro K9 hK9
  refine wS hF fun K10 hK10=>vX O<|vE hK10<|wBk fun a hF=>?_
  refine bQ (G:=Nat × Bool) (fun g2 a x=>g2.1≤255-h∧(g2.2=true→bK i.k (255-h)≠bK k (255-h)∧agree i.k k g2.1)∧(g2.2=false→¬ bI i.k k=255-h)∧Fr 59 [(10,.int .i64 (g2.1:Int)),(9,.bool g2.2),(0,.slice A l.length c),(2,.int .i64 ((256-h:Nat):Int)),(4,.pointer (some ⟨b1,0,none⟩)),(8,.int .i64 (n:Int)),(7,lv)] a∧Hp w0 (XL::[row b1 25 (dc k)]::R) x) (fun g2=>255-h-g2.1) (0,decide (bK i.k (255-h)≠bK k (255-h))) (⟨Tv _,(fun hd=>⟨of_decide_eq_true hd,fun j hj=>absurd hj (Nat.not_lt_zero _)⟩),(fun hd hp=>of_decide_eq_false hd (by rw [← hp]; exact lQ ag)),hF.keep [10,9,0,2,4,8,7] rfl,hA11⟩) ?_
  clear hF
  rintro g2 a w13 ⟨hbJ,hyes,hno,hF,hA12⟩
  obtain ⟨bb,ok⟩:=g2
  simp only at hbJ hyes hno hF
  have hFn:=hF
  cases ok
  ·by_cases hlb:bb<255-h
   ·apply wp_seq_k; intro K11 hK11
    refine wS hF fun K12 hK12=>vX O<|vX O<|vV O (dm O O O (show IntKind.i64.wrap (((256-h:Nat):Int)-1)=((255-h:Nat):Int) by rw [TB _ ag]; omega)) fun a hF=>?_
    refine vR hF<|vV O (aH O O O O (dB ag))<|vX O<|vG O (bT O O)<|vV O (bg O O O)<|vE hK12<|vF1 O fun a hF=>?_
    apply wp_exit
    refine hK9 _ _ ?_
    refine wS hF fun K13 hK13=>vX O<|vE hK13<|vF1 O fun a hF=>?_
    apply wp_skip
    refine hK7 _ _ ?_
    refine wp_region_lit ?_
    refine vR hF<|vX O<|vV O (bH O O O (TB _ ag))<|vX O fun a hF=>?_
    refine az ?_
    exact ⟨(n+1,out),(by show l.length-(n+1)<l.length-n; omega),_,_,(by show n+1≤l.length; omega),(by show out.length≤n+1; omega),(by rw [hof,hdr,rP (hno rfl)]),hO,hF.keep [8,7,0,2,4] rfl,hA12⟩
   ·apply wp_seq_k; intro K14 hK14
    refine wS hF fun K15 hK15=>vX O<|vX O<|vV O (dm O O O (show IntKind.i64.wrap (((256-h:Nat):Int)-1)=((255-h:Nat):Int) by rw [TB _ ag]; omega)) fun a hF=>?_
    refine vR hF<|vV O (aH O O O O (dD ag))<|vX O<|vS O<|vV O (bg O O O)<|vE hK15<|vF1 O fun a hF=>?_
    apply wp_exit
    refine hK9 _ _ ?_
    refine wS hF fun K16 hK16=>vX O<|vE hK16<|vF1 O fun a hF=>?_
    apply wp_skip
    refine hK7 _ _ ?_
    refine wp_region_lit ?_
    refine vR hF<|vX O<|vV O (bH O O O (TB _ ag))<|vX O fun a hF=>?_
    refine az ?_
    exact ⟨(n+1,out),(by show l.length-(n+1)<l.length-n; omega),_,_,(by show n+1≤l.length; omega),(by show out.length≤n+1; omega),(by rw [hof,hdr,rP (hno rfl)]),hO,hF.keep [8,7,0,2,4] rfl,hA12⟩
  ·obtain ⟨hdf,hag⟩:=hyes rfl
   by_cases hlb:bb<255-h
   ·apply wp_seq_k; intro K17 hK17
    refine wS hF fun K18 hK18=>vX O<|vX O<|vV O (dm O O O (show IntKind.i64.wrap (((256-h:Nat):Int)-1)=((255-h:Nat):Int) by rw [TB _ ag]; omega)) fun a hF=>?_
    refine vR hF<|vV O (aH O O O O (dB ag))<|vX O<|vG O (bT O O)<|vV O (bg O O O)<|vE hK18<|vT1 O<|wKp hK17<|wQ fun K19 hK19=>wBk fun a hF=>?_
    refine ak 11 [6,9,11] [0,1,2,3,4,5,7,8,6,9,10,11] _ af af (Hq.drew hA12.q) ?_
    have hA14:=Hl.drew hA12
    refine pR hF<|pX O O<|pX O O<|pW O O (fun _=>bi O TT kU (by exact congrArg (fun A=>some (Value.slice A l.length c)) hAd) rfl n rfl hlt rfl) fun a hF=>?_
    refine pR hF<|pW O O (fun _=>gm O TZ O uX ae rfl (rfl:(⟨_,_+_,none⟩:Addr)=⟨b,q+n*65+0,none⟩))<|pV O O (fun x hx=>aQ O (Hq.sub hx (List.Subset.trans hG (aA (aA (bu))))) O hc (n*65) (by have:=(fE hI hi).2; omega) rfl (jM hI hi) vw)<|pX O O<|pV O O (fun x hx=>yZ (new:=dc k) rfl hx O 1 O vw hdk)<|pX O O fun a hF=>?_
    refine bM O O O (fun K hK=>ax hF O ae DN rfl rfl ?_)
    with_reducible refine (ng w0 _ (XL::[row b1 25 (dc k)]::R) i.k bb hiK.k ag hA14).mono ?_
    rintro e' w15 ⟨rfl,hA16⟩
    refine ⟨_,rfl,fun a hF=>hK _ _ (fun _=>?_) ?_⟩
    ·exact hA16.q
    replace hA16:Hp w0 (XL::[row b1 25 (dc k)]::R) w15:=hA16
    refine bM O O O (fun K hK=>ax hF O ae DN rfl rfl ?_)
    with_reducible refine (ng w0 _ (XL::[row b1 25 (dc k)]::R) k bb hk ag hA16).mono ?_
    rintro e' w17 ⟨rfl,hA18⟩
    refine ⟨_,rfl,fun a hF=>hK _ _ (fun _=>?_) ?_⟩
    ·exact hA18.q
    replace hA18:Hp w0 (XL::[row b1 25 (dc k)]::R) w17:=hA18
    refine pR hF<|pW O O (fun _=>aH O O O O (cmp_eq _ _)) fun a hF=>?_
    refine bY hF O O O O ae _ (bJ O O) (fun h=>absurd h ae) (fun a hF=>?_)
    refine aB ?_
    refine hK19 _ _ ?_
    refine wp_region_lit ?_
    refine vR hF<|vX O<|vV O (bH O O O (TB _ ag))<|vX O fun a hF=>?_
    refine az ?_
    exact ⟨(bb+1,decide (bK i.k bb=bK k bb)),(by show 255-h-(bb+1)<255-h-bb; omega),(by show bb+1≤255-h; omega),(fun hd=>⟨hdf,hag.succ (of_decide_eq_true hd)⟩),(fun hd hp=>of_decide_eq_false hd (gV i.k k bb ag)),hF.keep [10,9,0,2,4,8,7] rfl,hA18⟩
   ·apply wp_seq_k; intro K20 hK20
    refine wS hF fun K21 hK21=>vX O<|vX O<|vV O (dm O O O (show IntKind.i64.wrap (((256-h:Nat):Int)-1)=((255-h:Nat):Int) by rw [TB _ ag]; omega)) fun a hF=>?_
    refine vR hF<|vV O (aH O O O O (dD ag))<|vX O<|vS O<|vV O (bg O O O)<|vE hK21<|vF1 O fun a hF=>?_
    obtain rfl:bb=255-h:=by omega
    have hpp:bI i.k k=255-h:=IG hJ hag hdf
    apply wp_exit
    refine hK9 _ _ ?_
    refine wS hF fun K22 hK22=>vX O<|vE hK22<|vT1 O fun a hF=>?_
    refine wp_region_lit ?_
    refine vR hF<|vX O<|vX O<|vX O<|vV O (bi O TT kU (by exact congrArg (fun A=>some (Value.slice A l.length c)) hAd) rfl n rfl hlt rfl) fun a hF=>?_
    refine vR hF<|vV O (aQ O (Hq.sub hA12.q (List.Subset.trans hG (aA (aA (bu))))) O hc (n*65) (fE hI hi).2 rfl (fE hI hi).1 KL) fun a hF=>?_
    refine au O (fun K hK=>jY (qs := #[(0,.agg i.cells.toArray)]) (cells:=i.cells.toArray) hF O ae rfl hA12 O (by exact mg hiK) (fun b19 w20 a hb19 hF hA21=>hK _ _ ?_))
    refine au O (fun K hK=>dI hF O ae rfl hA21 1 O hO TT mf rfl rfl (Rc.srcC (W:=i.cells) (m:=1) (size:=65) (R:=[row b19 49 i.cells]::XL::[row b1 25 (dc k)]::R) (Rc.ofRow (i:=0) (off:=0) rfl (by rw [List.drop_zero]; exact List.take_length ..)) hA21.q TT ae (by rw [Itm.len hiK]) (Itm.one i)) ag ae (fun lv2 XL2 w22 a hO2 hF hA23=>hK _ _ ?_))
    replace hA23:Hp w0 ([row b19 49 i.cells]::XL2::[row b1 25 (dc k)]::R) w22:=hA23
    rw [← mO,show (out).length+1=(out++[i]).length from lZ _ _] at hO2
    refine vR hF<|vX O fun a hF=>az<|hK7 _ _ ?_
    refine wp_region_lit ?_
    refine vR hF<|vX O<|vV O (bH O O O (TB _ ag))<|vX O fun a hF=>?_
    refine az ?_
    have hA24:Hp w0 (XL2::[row b1 25 (dc k)]::R) w22:=hpS 3 [1,2] [0] hA23 rfl
    exact ⟨(n+1,out++[i]),(by show l.length-(n+1)<l.length-n; omega),_,_,(by show n+1≤l.length; omega),(by simp only [List.length_append,List.length_cons,List.length_nil]; omega),(by rw [hof,hdr,yE hpp]; simp),hO2,hF.keep [8,7,0,2,4] rfl,hA24⟩
 ·refine aS hF O (dD ag) ?_
  obtain rfl:n=l.length:=by omega
  rw [List.drop_length,LX,List.append_nil] at hof
  apply wp_exit
  refine hK3 _ _ ?_
  refine wS hF fun K23 hK23=>vX O<|vX O<|vE hK23 fun a hF=>?_
  apply wp_ret
  refine aO hF Tryz.results41 O ?_
  have hA25:Hp w0 (XL::R) w6:=hpS 2 [0] [1] hA5 rfl
  rw [hof]
  exact ⟨_,_,rfl,hO,hA25⟩
theorem Ll (w0 w:World) (R G:List Seg) (hG:G⊆R) (A:Option Addr) (l:List Itm) (c:Nat) (hlc:l.length≤c) (hcm:l.length≤100000) (hI:∀ i∈l,i.OK) (hL:Rc w0 G A (cel Itm.cells l)) (width:Int) (k:List UInt8) (hk:k.length=32) (hA:Hp w0 R w):Calls Tryz.prog 20 #[.int .i64 width,.slice A l.length c,.agg (dc k).toArray] w fun e w'=>∃ sv X,e= .returned (.agg ((aV width l k 256).cells sv).toArray)∧Buf 25 32 X sv (aV width l k 256).ss.length (fF (aV width l k 256).ss)∧Hp w0 (X::R) w':=by
 have hdk:(dc k).length=32:=by rw [aj,hk]
 have hch:=jR hI k
 have hel:(Value.int .i64 (dF l k)::dc (dC l k)).length=33:=by rw [List.length_cons,aj,hch]
 have hnl:=oG width k l
 refine aJ Tryz.func20 O Tryz.ntmps20 ai (fun a hF=>?_)
 refine wp_seq_k fun K1 hK1=>wp_region_lit ?_
 refine au O (fun K hK=>bC (cs:=dc k) hF O ae rfl hA O (fun b1 w2 a hb1 hF hA3=>hK _ _ ?_))
 refine au O (fun K hK=>bG hF O ae rfl hA3 uu (fun b4 w5 a hb4 hF hA6=>hK _ _ ?_))
 refine az<|hK1 _ _ ?_
 refine wS hF fun K2 hK2=>vX O fun a hF=>?_
 refine au O (fun K hK=>ax hF O ae Nk rfl rfl ?_)
 with_reducible refine (uB w0 _ ([row b4 30 (prf0.cells (.slice none 0 0))]::[row b1 25 (dc k)]::R) width hA6).mono ?_
 rintro e' w7 ⟨AE,cE,ZE,rfl,hRE,hA8⟩
 refine ⟨_,rfl,fun a hF=>hK _ _ ?_⟩
 replace hA8:Hp w0 (ZE::[row b4 30 (prf0.cells (.slice none 0 0))]::[row b1 25 (dc k)]::R) w7:=hA8
 refine vR hF<|vX O<|vE hK2 fun a hF=>?_
 refine wp_seq_k fun K3 hK3=>wp_region_lit ?_
 refine au O (fun K hK=>bG hF O ae rfl hA8 uu (fun b9 w10 a hb9 hF hA11=>hK _ _ ?_))
 refine az<|hK3 _ _ ?_
 refine wS hF fun K4 hK4=>vX O<|vV O (yZ (new:=dc k) rfl hA11.q O 3 O vw hdk) fun a hF=>?_
 refine au O (fun K hK=>ax hF O ae xR rfl rfl ?_)
 with_reducible refine (EI w0 _ ([row b9 30 (prf0.cells (.slice none 0 0))]::ZE::[row b4 30 (prf0.cells (.slice none 0 0))]::[row b1 25 (dc k)]::R) G (List.Subset.trans hG (aA (aA (aA (aA (bu)))))) A l c hlc hcm hI hL k hk hA11).mono ?_
 rintro e' w12 ⟨rfl,hA13⟩
 refine ⟨_,rfl,fun a hF=>hK _ _ ?_⟩
 refine vR hF<|vX O<|vV O (cu (v:= .agg (.int .i64 (dF l k)::dc (dC l k)).toArray) rfl rfl rfl)<|vV O (cu (v:= .bool ((gX l k).isSome)) O O O)<|vV O (yf 1 O TW O Bz O) fun a hF=>?_
 refine au O (fun K hK=>dE (new:= .int .i64 (dF l k)::dc (dC l k)) hF O O hA13 O O 0 O (by rw [hel,Prf.c_len gU]; decide) (jS _ _) (by rw [hel]; exact Bz) (fun w14 hA15=>hK _ _ ?_))
 replace hA15:Hp w0 ([row b9 30 (splice (prf0.cells (.slice none 0 0)) 1 (.int .i64 (dF l k)::dc (dC l k)))]::ZE::[row b4 30 (prf0.cells (.slice none 0 0))]::[row b1 25 (dc k)]::R) w14:=hA15
 have hA16:Hp w0 ([row b9 30 (Prf.cells ⟨false,dF l k,dC l k,List.replicate 32 0,[]⟩ (.slice none 0 0))]::ZE::[row b4 30 (prf0.cells (.slice none 0 0))]::[row b1 25 (dc k)]::R) w14:=by
  rw [← show splice (prf0.cells (.slice none 0 0)) 1 (.int .i64 (dF l k)::dc (dC l k))=Prf.cells ⟨false,dF l k,dC l k,List.replicate 32 0,[]⟩ (.slice none 0 0) from (Prf.c_putE gU _ hch)]
  exact hA15
 refine vR hF<|vV O (yf 0 O TW O Om O) fun a hF=>?_
 refine au O (fun K hK=>aW hF O O hA16 O O 0 O (by rw [Prf.c_len ⟨hch,List.length_replicate ..,(fun d hd=>by cases hd),Tv _⟩]; decide) rfl Om (fun w17 hA18=>hK _ _ ?_))
 replace hA18:Hp w0 ([row b9 30 ((Prf.cells ⟨false,dF l k,dC l k,List.replicate 32 0,[]⟩ (.slice none 0 0)).set 0 (.bool (gX l k).isSome))]::ZE::[row b4 30 (prf0.cells (.slice none 0 0))]::[row b1 25 (dc k)]::R) w17:=hA18
 have hA19:Hp w0 ([row b9 30 ((aV width l k 0).cells (.slice none 0 0))]::ZE::[row b4 30 (prf0.cells (.slice none 0 0))]::[row b1 25 (dc k)]::R) w17:=by
  rw [← show (Prf.cells ⟨false,dF l k,dC l k,List.replicate 32 0,[]⟩ (.slice none 0 0)).set 0 (.bool (gX l k).isSome)=(aV width l k 0).cells (.slice none 0 0) from rfl]
  exact hA18
 refine az<|hK4 _ _ ?_
 apply wp_seq_k; intro K5 hK5
 refine wS hF fun K6 hK6=>vX O<|vE hK6<|wBk fun a hF=>?_
 have hA20:Hp w0 ([row b9 30 ((aV width l k 0).cells (.slice none 0 0))]::[row b4 30 (prf0.cells (.slice none 0 0))]::ZE::[row b1 25 (dc k)]::R) w17:=hpO 4 [0,2,1,3] hA19 rfl
 have hA21:Hp w0 ([row b9 30 ((aV width l k 0).cells (.slice none 0 0))]::[]::[row b4 30 (prf0.cells (.slice none 0 0))]::ZE::[row b1 25 (dc k)]::R) w17:=hA20
 refine bQ (G:=Nat) (fun h a x=>∃ (sv:Value) (XS:Seg),h≤256∧Buf 25 32 XS sv (aV width l k h).ss.length (fF (aV width l k h).ss)∧Fr 66 [(9,.int .i64 (h:Int)),(0,.int .i64 width),(1,.slice A l.length c),(5,.pointer (some ⟨b1,0,none⟩)),(6,.pointer (some ⟨b4,0,none⟩)),(7,.slice AE 257 cE),(8,.pointer (some ⟨b9,0,none⟩))] a∧Hp w0 ([row b9 30 ((aV width l k h).cells sv)]::XS::[row b4 30 (prf0.cells (.slice none 0 0))]::ZE::[row b1 25 (dc k)]::R) x) (fun h=>256-h) 0 (⟨_,_,Tv _,(Buf.nil 25 32),hF.keep [9,0,1,5,6,7,8] rfl,hA21⟩) ?_
 clear hF
 rintro h a w23 ⟨sv,XS,hh,hS,hF,hA22⟩
 have hpk:(aV width l k h).OK:=vF hI k hh
 apply wp_seq_k; intro K7 hK7
 refine wS hF fun K8 hK8=>vX O<|vV O (aH O O O O O)<|vE hK8 fun a hF=>?_
 by_cases hlt:h<256
 ·refine aZ hF O (dB ag) ?_
  apply wp_skip
  refine hK7 _ _ ?_
  apply wp_seq_k; intro K9 hK9
  apply wp_block
  refine wS hF fun K10 hK10=>vX O<|vV O (yZ (new:=dc k) rfl hA22.q O 4 O vw hdk)<|vX O<|vV O (dm O O O (show IntKind.i64.wrap (256-(h:Int))=((256-h:Nat):Int) by rw [TB _ ag]; omega)) fun a hF=>?_
  refine au O (fun K hK=>ax hF O ae Nb rfl rfl ?_)
  with_reducible refine (Ik w0 _ ([row b9 30 ((aV width l k h).cells sv)]::XS::[row b4 30 (prf0.cells (.slice none 0 0))]::ZE::[row b1 25 (dc k)]::R) G (List.Subset.trans hG (aA (aA (aA (aA (aA (bu))))))) A l c hlc hcm hI hL k hk h hlt hA22).mono ?_
  rintro e' w24 ⟨nv,NX,rfl,hNX,hA25⟩
  refine ⟨_,rfl,fun a hF=>hK _ _ ?_⟩
  replace hA25:Hp w0 (NX::[row b9 30 ((aV width l k h).cells sv)]::XS::[row b4 30 (prf0.cells (.slice none 0 0))]::ZE::[row b1 25 (dc k)]::R) w24:=hA25
  have hFn:=hF
  obtain ⟨AN,cN,rfl,hcN,hRN⟩:=hNX.rc (w0:=w0) (R:=[NX]) (TF ..)
  have hF:=hFn
  refine vR hF<|vX O<|vE hK10<|wQ fun K11 hK11=>wQ fun K12 hK12 a hF=>?_
  have hnlen:=LY k h l
  by_cases h0:iC k h l=[]
  ·have hlz:(iC k h l).length=0:=by rw [h0]; rfl
   refine wp_region_lit ?_
   refine vR hF<|vX O<|vV O (aY O TT O O)<|vV O (aH O O O O (gJ ag))<|vE hK12<|vT1 O fun a hF=>?_
   apply wp_exit
   refine hK9 _ _ ?_
   refine wp_region_lit ?_
   refine vR hF<|vX O<|vV O (bH O O O (TB _ ag))<|vX O fun a hF=>?_
   refine az ?_
   have heq:nbr width k l h=aK width h:=by unfold nbr; rw [h0,iw]
   have hps:=rJ heq
   rw [← hps] at hS
   have hA26:Hp w0 (NX::[row b9 30 ((aV width l k (h+1)).cells sv)]::XS::[row b4 30 (prf0.cells (.slice none 0 0))]::ZE::[row b1 25 (dc k)]::R) w24:=by
    rw [← show (aV width l k h).cells sv=(aV width l k (h+1)).cells sv from (by rw [hps])]
    exact hA25
   have hA27:Hp w0 ([row b9 30 ((aV width l k (h+1)).cells sv)]::XS::[row b4 30 (prf0.cells (.slice none 0 0))]::ZE::[row b1 25 (dc k)]::R) w24:=hpS 6 [1,2,3,4,5] [0] hA26 rfl
   exact ⟨h+1,ag,_,_,ag,hS,hF.keep [9,0,1,5,6,7,8] rfl,hA27⟩
  ·have hpos:0<(iC k h l).length:=List.length_pos_iff.2 h0
   refine wp_region_lit ?_
   refine vR hF<|vX O<|vV O (aY O TT O O)<|vV O (aH O O O O (fJ ag))<|vE hK12<|vF1 O fun a hF=>?_
   have hdd:(dc (nbr width k l h)).length=32:=by rw [aj,hnl]
   have hdle:=bZ width
   obtain ⟨herd,hele⟩:=iY (aK width) 257 h (fun i _=>hdle i) ag
   obtain ⟨be_,qe,hAE,hce⟩:=hRE.ne (i:=h*32) ag
   apply wp_skip
   refine hK11 _ _ ?_
   refine wS hF fun K13 hK13=>vX O<|vX O<|vX O<|vV O (dm O O O (show IntKind.i64.wrap (256-(h:Int))=((256-h:Nat):Int) by rw [TB _ ag]; omega)) fun a hF=>?_
   refine vR hF<|vX O fun a hF=>?_
   refine au O (fun K hK=>ax hF O ae o9 rfl rfl ?_)
   with_reducible refine (Ld w0 (ZE::[NX]) width AE cE (hRE.mono (dZ (TF ..))) h hh _ (NX::[row b9 30 ((aV width l k h).cells sv)]::XS::[row b4 30 (prf0.cells (.slice none 0 0))]::ZE::[row b1 25 (dc k)]::R) (dR (TI _ (TI _ (TI _ (TI _ ((TF ..)))))) (dZ ((TF ..)))) AN (iC k h l) cN hcN ag (Pg hI) (hRN.mono (dZ (TI _ (TF ..)))) hA25).mono ?_
   rintro e' w28 ⟨rfl,hA29⟩
   refine ⟨_,rfl,fun a hF=>hK _ _ ?_⟩
   replace hA29:Hp w0 (NX::[row b9 30 ((aV width l k h).cells sv)]::XS::[row b4 30 (prf0.cells (.slice none 0 0))]::ZE::[row b1 25 (dc k)]::R) w28:=hA29
   rw [show dQ width h (iC k h l)=nbr width k l h from rfl] at hF
   refine au O (fun K hK=>bG hF O ae rfl hA29 (jE) (fun b30 w31 a hb30 hF hA32=>hK _ _ ?_))
   refine au O (fun K hK=>aI (new:=dc (nbr width k l h)) hF O O hA32 O O 0 O (by rw [hdd]; rfl) (bz _) uX (fun w33 hA34=>hK _ _ ?_))
   replace hA34:Hp w0 ([row b30 25 (dc (nbr width k l h))]::NX::[row b9 30 ((aV width l k h).cells sv)]::XS::[row b4 30 (prf0.cells (.slice none 0 0))]::ZE::[row b1 25 (dc k)]::R) w33:=hA34
   refine az<|hK13 _ _ ?_
   apply wp_seq_k; intro K14 hK14
   by_cases heq:nbr width k l h=aK width h
   ·refine ak 5 [5] [0,1,2,3,4,5] _ af af (Hq.drew hA34.q) ?_
    have hA35:=Hl.drew hA34
    refine pR hF<|pV O O (fun x hx=>yZ (new:=dc (nbr width k l h)) O hx O 0 O vw hdd)<|pX O O<|pX O O<|pW O O (fun _=>bi O Tu uX (by exact congrArg (fun A=>some (Value.slice A 257 cE)) hAE) rfl h rfl ag rfl) fun a hF=>?_
    refine pR hF<|pV O O (fun x hx=>aQ O (Hq.sub hx (dZ (TI _ (TI _ (TI _ (TI _ (TI _ ((TF ..))))))))) O hce (h*32) hele rfl herd vw) fun a hF=>?_
    refine bY hF O O O O ae _ (kS O Tz TA D5 af rfl rfl (hnl h) (hdle h) (show (!decide (nbr width k l h=aK width h))=false by rw [decide_eq_true heq]; rfl)) (fun h=>absurd h ae) (fun a hF=>?_)
    refine aB ?_
    refine hK14 _ _ ?_
    refine dL hF O ?_
    apply wp_skip
    refine hK9 _ _ ?_
    refine wp_region_lit ?_
    refine vR hF<|vX O<|vV O (bH O O O (TB _ ag))<|vX O fun a hF=>?_
    refine az ?_
    have hps:=rJ heq
    rw [← hps] at hS
    have hA36:Hp w0 ([row b30 25 (dc (nbr width k l h))]::NX::[row b9 30 ((aV width l k (h+1)).cells sv)]::XS::[row b4 30 (prf0.cells (.slice none 0 0))]::ZE::[row b1 25 (dc k)]::R) w33.drew:=by
     rw [← show (aV width l k h).cells sv=(aV width l k (h+1)).cells sv from (by rw [hps])]
     exact hA35
    have hA37:Hp w0 ([row b9 30 ((aV width l k (h+1)).cells sv)]::XS::[row b4 30 (prf0.cells (.slice none 0 0))]::ZE::[row b1 25 (dc k)]::R) w33.drew:=hpS 7 [2,3,4,5,6] [0,1] hA36 rfl
    exact ⟨h+1,ag,_,_,ag,hS,hF.keep [9,0,1,5,6,7,8] rfl,hA37⟩
   ·refine ak 5 [5] [0,1,2,3,4,5] _ af af (Hq.drew hA34.q) ?_
    have hA38:=Hl.drew hA34
    refine pR hF<|pV O O (fun x hx=>yZ (new:=dc (nbr width k l h)) O hx O 0 O vw hdd)<|pX O O<|pX O O<|pW O O (fun _=>bi O Tu uX (by exact congrArg (fun A=>some (Value.slice A 257 cE)) hAE) rfl h rfl ag rfl) fun a hF=>?_
    refine pR hF<|pV O O (fun x hx=>aQ O (Hq.sub hx (dZ (TI _ (TI _ (TI _ (TI _ (TI _ ((TF ..))))))))) O hce (h*32) hele rfl herd vw) fun a hF=>?_
    refine bY hF O O O O ae _ (kS O Tz TA D5 af rfl rfl (hnl h) (hdle h) (show (!decide (nbr width k l h=aK width h))=true by rw [decide_eq_false heq]; rfl)) (fun h=>absurd h ae) (fun a hF=>?_)
    refine aB ?_
    refine hK14 _ _ ?_
    refine eP hF O ?_
    apply wp_seq_k; intro K15 hK15
    refine ak 13 [13] [0,1,2,3,4,5,6,7,8,9,10,11,12,13] _ af af (Hq.drew hA38.q) ?_
    have hA39:=Hl.drew hA38
    refine pR hF<|pX O O<|pW O O (fun _=>mQ O O O ae (CB h hlt))<|pX O O<|pW O O (fun _=>mQ O O O ae (CB h hlt))<|pW O O (fun _=>yf 34 rfl TW O BA O)<|pW O O (fun _=>aP O Ub D5 rfl rfl (h/8) rfl ag (ad2 _ _ _) (rfl:(none:Option Nat)=none))<|pV O O (fun x hx=>aX O hx O 2 O (Prf.c_bit hpk ag) Aq)<|pX O O<|pW O O (fun _=>fO O O O ae (EP h))<|pW O O (fun _=>yJ O O O ag (wL h))<|pW O O (fun _=>bH O O O (qJ _ _ hlt).2)<|pW O O (fun _=>yf 34 rfl TW O BA O)<|pW O O (fun _=>aP O Ub D5 rfl rfl (h/8) rfl ag (ad2 _ _ _) (rfl:(none:Option Nat)=none)) fun a hF=>?_
    refine bM O O O (fun K hK=>aW hF O O hA39 O O 2 O (by rw [Prf.c_len hpk]; omega) rfl D5 (fun w40 hA41=>hK _ _ (fun h=>absurd h ae) ?_))
    replace hA41:Hp w0 ([row b30 25 (dc (nbr width k l h))]::NX::[row b9 30 (((aV width l k h).cells sv).set (34+h/8) (.int .u8 ((UInt8.ofNat ((bAt (aV width l k h).bs (h/8)).toNat+2 ^ (h%8))).toNat:Int)))]::XS::[row b4 30 (prf0.cells (.slice none 0 0))]::ZE::[row b1 25 (dc k)]::R) w40:=hA41
    have hA42:Hp w0 ([row b30 25 (dc (nbr width k l h))]::NX::[row b9 30 (Prf.cells ⟨(aV width l k h).pr,(aV width l k h).ct,(aV width l k h).ch,(aV width l k h).bs.set (h/8) (UInt8.ofNat ((bAt (aV width l k h).bs (h/8)).toNat+2 ^ (h%8))),(aV width l k h).ss⟩ sv)]::XS::[row b4 30 (prf0.cells (.slice none 0 0))]::ZE::[row b1 25 (dc k)]::R) w40:=by
     rw [← show ((aV width l k h).cells sv).set (34+h/8) (.int .u8 ((UInt8.ofNat ((bAt (aV width l k h).bs (h/8)).toNat+2 ^ (h%8))).toNat:Int))=Prf.cells ⟨(aV width l k h).pr,(aV width l k h).ct,(aV width l k h).ch,(aV width l k h).bs.set (h/8) (UInt8.ofNat ((bAt (aV width l k h).bs (h/8)).toNat+2 ^ (h%8))),(aV width l k h).ss⟩ sv from (Prf.c_putB hpk ag _)]
     exact hA41
    refine aB ?_
    refine hK15 _ _ ?_
    have hpb:Prf.OK (⟨(aV width l k h).pr,(aV width l k h).ct,(aV width l k h).ch,(aV width l k h).bs.set (h/8) (UInt8.ofNat ((bAt (aV width l k h).bs (h/8)).toNat+2 ^ (h%8))),(aV width l k h).ss⟩:Prf):=⟨hpk.ch,by show (List.set _ _ _).length=32; rw [List.length_set]; exact hpk.bs,hpk.ss,hpk.few⟩
    refine wp_region_lit ?_
    refine vR hF<|vV O (yf 66 rfl TW O rC O)<|vV O (aX O hA42.q O 2 O (Prf.c_sums hpb) rQ)<|vV O (yZ (new:=dc (nbr width k l h)) O hA42.q O 0 O vw hdd) fun a hF=>?_
    refine au O (fun K hK=>jY (qs := #[(0,.agg (dc (nbr width k l h)).toArray)]) (cells:=(dc (nbr width k l h)).toArray) hF O ae rfl hA42 O (by exact lY (hnl h)) (fun b43 w44 a hb43 hF hA45=>hK _ _ ?_))
    refine au O (fun K hK=>dI hF O ae rfl hA45 4 O hS Tu oh rfl rfl (Rc.srcC (W:=dc (nbr width k l h)) (m:=1) (size:=32) (R:=[row b43 25 (dc (nbr width k l h))]::[row b30 25 (dc (nbr width k l h))]::NX::[row b9 30 (Prf.cells ⟨(aV width l k h).pr,(aV width l k h).ct,(aV width l k h).ch,(aV width l k h).bs.set (h/8) (UInt8.ofNat ((bAt (aV width l k h).bs (h/8)).toNat+2 ^ (h%8))),(aV width l k h).ss⟩ sv)]::XS::[row b4 30 (prf0.cells (.slice none 0 0))]::ZE::[row b1 25 (dc k)]::R) (Rc.ofRow (i:=0) (off:=0) rfl (by rw [List.drop_zero]; exact List.take_length ..)) hA45.q Tu ae (by rw [aj,(hnl h)]) (bz _)) (by have:=hpk.few; omega) ae (fun sv2 XS2 w46 a hS2 hF hA47=>hK _ _ ?_))
    refine vR hF<|vV O (yf 66 rfl TW O rC O) fun a hF=>?_
    refine au O (fun K hK=>aW hF O O hA47 O O 3 O (by rw [Prf.c_len hpb]; decide) hS2.one rC (fun w48 hA49=>hK _ _ ?_))
    replace hA49:Hp w0 ([row b43 25 (dc (nbr width k l h))]::[row b30 25 (dc (nbr width k l h))]::NX::[row b9 30 ((Prf.cells ⟨(aV width l k h).pr,(aV width l k h).ct,(aV width l k h).ch,(aV width l k h).bs.set (h/8) (UInt8.ofNat ((bAt (aV width l k h).bs (h/8)).toNat+2 ^ (h%8))),(aV width l k h).ss⟩ sv).set 66 sv2)]::XS2::[row b4 30 (prf0.cells (.slice none 0 0))]::ZE::[row b1 25 (dc k)]::R) w48:=hA49
    have hA50:Hp w0 ([row b43 25 (dc (nbr width k l h))]::[row b30 25 (dc (nbr width k l h))]::NX::[row b9 30 ((aV width l k (h+1)).cells sv2)]::XS2::[row b4 30 (prf0.cells (.slice none 0 0))]::ZE::[row b1 25 (dc k)]::R) w48:=by
     rw [← show (Prf.cells ⟨(aV width l k h).pr,(aV width l k h).ct,(aV width l k h).ch,(aV width l k h).bs.set (h/8) (UInt8.ofNat ((bAt (aV width l k h).bs (h/8)).toNat+2 ^ (h%8))),(aV width l k h).ss⟩ sv).set 66 sv2=(aV width l k (h+1)).cells sv2 from ((Prf.c_set hpb sv2).trans (by rw [xk heq]; rfl))]
     exact hA49
    rw [← uo,← mr heq,show (aV width l k h).ss.length+1=(aV width l k (h+1)).ss.length by rw [mr heq,List.length_append]; rfl] at hS2
    refine az<|hK9 _ _ ?_
    refine wp_region_lit ?_
    refine vR hF<|vX O<|vV O (bH O O O (TB _ ag))<|vX O fun a hF=>?_
    refine az ?_
    have hA51:Hp w0 ([row b9 30 ((aV width l k (h+1)).cells sv2)]::XS2::[row b4 30 (prf0.cells (.slice none 0 0))]::ZE::[row b1 25 (dc k)]::R) w48:=hpS 8 [3,4,5,6,7] [0,1,2] hA50 rfl
    exact ⟨h+1,ag,_,_,ag,hS2,hF.keep [9,0,1,5,6,7,8] rfl,hA51⟩
 ·refine aS hF O (dD ag) ?_
  obtain rfl:h=256:=by omega
  apply wp_exit
  refine hK5 _ _ ?_
  refine wS hF fun K16 hK16=>vV O (aT O hA22.q O 0 O OL (by rw [Prf.c_len hpk]; decide) (Prf.c_all hpk)) fun a hF=>?_
  refine au O (fun K hK=>aI (new:=(aV width l k 256).cells sv) hF O O hA22 O O 2 O (by rw [Prf.c_len hpk,Prf.c_len gU]) (Prf.c_one hS.one) (by rw [Prf.c_len gU]; exact Bv) (fun w52 hA53=>hK _ _ ?_))
  replace hA53:Hp w0 ([row b9 30 ((aV width l k 256).cells sv)]::XS::[row b4 30 ((aV width l k 256).cells sv)]::ZE::[row b1 25 (dc k)]::R) w52:=hA53
  refine az<|hK16 _ _ ?_
  apply wp_ret
  refine fD hF Tryz.results20 hA53.q O 2 O (by rw [Prf.c_len hpk]; exact OL) ?_
  have hA54:Hp w0 (XS::R) w52:=hpS 5 [1] [0,2,3,4] hA53 rfl
  exact ⟨sv,XS,rfl,hS,hA54⟩
theorem OY (w0 w:World) (R:List Seg) (A:Option Addr) (n m c:Nat) (hn:n≤c) (hA:Hp w0 R w):Calls Tryz.prog 6 #[.slice A n c,.int .i64 ((m:Nat):Int)] w fun e w'=>e= .returned (.slice A (min n m) c)∧Hp w0 R w':=by
 refine aJ Tryz.func6 O Tryz.ntmps6 ai (fun a hF=>?_)
 refine wS hF fun K1 hK1=>vX O<|vE hK1<|wQ fun K2 hK2=>wQ fun K3 hK3 a hF=>?_
 by_cases hgt:m<n
 ·refine wp_region_lit ?_
  refine vR hF<|vX O<|vV O (aY O TT O O)<|vX O<|vV O (aH O O O O (mM ag))<|vE hK3<|vT1 O<|wT fun K4 hK4=>vX O<|vX O<|vV O (ed O TT kU O (.none 0) (.some rfl rfl) (Tv _) (show m≤c by omega) dU) fun a hF=>?_
  refine vR hF<|vX O<|vE hK4 fun a hF=>?_
  apply wp_ret
  simp only [Exit.then]
  refine aO hF Tryz.results6 O ?_
  exact ⟨by rw [show min n m=m by omega],hA⟩
 ·refine wp_region_lit ?_
  refine vR hF<|vX O<|vV O (aY O TT O O)<|vX O<|vV O (aH O O O O (nT ag))<|vE hK3<|vF1 O<|wKp hK2<|wT fun K5 hK5=>vX O<|vX O<|vE hK5 fun a hF=>?_
  apply wp_ret
  refine aO hF Tryz.results6 O ?_
  exact ⟨by rw [show min n m=n by omega],hA⟩
end Go.Proofs.YtpomngkcfbnjoaaGreatDoor
