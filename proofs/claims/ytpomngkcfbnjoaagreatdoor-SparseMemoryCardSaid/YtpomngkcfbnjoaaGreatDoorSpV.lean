/- The radix tree in memory: what reads it. -/
import Derived.Test.YtpomngkcfbnjoaaGreatDoorSp9
import Derived.Test.YtpomngkcfbnjoaaGreatDoorRt
import Derived.Lib.BitFns
/- The radix tree in memory: what reads it. -/
set_option maxRecDepth 100000
set_option maxHeartbeats 2000000
namespace Go.Proofs.YtpomngkcfbnjoaaGreatDoor
open Go.RowKit Go.Dk
def aC (k:List UInt8) (E:List Value) (sz b:Int) (p q:Value) (s:List Value):List Value:=dc k++(E++([.int .i64 sz,.int .i64 b,p,q]++s))
structure NodeL (k:List UInt8) (E s:List Value):Prop where
 k:k.length=32
 e:E.length=33
 s:s.length=64
theorem aF {k:List UInt8} {E s:List Value} (h:NodeL k E s) (sz b:Int) (p q:Value):(aC k E sz b p q s).length=133:=by
 unfold aC
 simp only [List.length_append,List.length_cons,aj,h.k,h.e,h.s,List.length_nil]
theorem dV {k:List UInt8} {E s:List Value} (h:NodeL k E s) (sz b:Int) (p q:Value):((aC k E sz b p q s).drop 0).take 32=dc k:=by unfold aC; rw [List.drop_zero]; exact List.take_left' (by rw [aj,h.k])
theorem IM {k:List UInt8} {E s:List Value} (h:NodeL k E s) (sz b:Int) (p q:Value):((aC k E sz b p q s).drop 32).take 33=E:=by
 unfold aC
 rw [List.drop_left' (by rw [aj,h.k])]
 exact List.take_left' h.e
theorem mJ {k:List UInt8} {E s:List Value} (h:NodeL k E s) (sz b:Int) (p q:Value) (j:Nat):(aC k E sz b p q s).drop (65+j)=([.int .i64 sz,.int .i64 b,p,q]++s).drop j:=by
 unfold aC
 rw [← List.append_assoc,← List.drop_drop,List.drop_left' (by rw [List.length_append,aj,h.k,h.e])]
theorem rV {k:List UInt8} {E s:List Value} (h:NodeL k E s) (sz b:Int) (p q:Value) (j:Nat):(aC k E sz b p q s)[65+j]? = ([.int .i64 sz,.int .i64 b,p,q]++s)[j]? := by
 have e:=congrArg (fun l:List Value=>l[0]?) (mJ h sz b p q j)
 simpa only [List.getElem?_drop,Nat.add_zero] using e
theorem dY {k:List UInt8} {E s:List Value} (h:NodeL k E s) (sz b:Int) (p q:Value):(aC k E sz b p q s)[65]? = some (.int .i64 sz):=rV h sz b p q 0
theorem dA {k:List UInt8} {E s:List Value} (h:NodeL k E s) (sz b:Int) (p q:Value):(aC k E sz b p q s)[66]? = some (.int .i64 b):=rV h sz b p q 1
theorem eX {k:List UInt8} {E s:List Value} (h:NodeL k E s) (sz b:Int) (p q:Value):(aC k E sz b p q s)[67]? = some p:=rV h sz b p q 2
theorem gI {k:List UInt8} {E s:List Value} (h:NodeL k E s) (sz b:Int) (p q:Value):(aC k E sz b p q s)[68]? = some q:=rV h sz b p q 3
theorem Fb {k:List UInt8} {E s:List Value} (h:NodeL k E s) (sz b:Int) (p q:Value):((aC k E sz b p q s).drop 67).take 2=[p,q]:=by rw [mJ h sz b p q 2]; rfl
theorem Md {k:List UInt8} {E s:List Value} (h:NodeL k E s) (sz b:Int) (p q:Value):((aC k E sz b p q s).drop 69).take 32=s.take 32:=by rw [mJ h sz b p q 4]; rfl
theorem Mc {k:List UInt8} {E s:List Value} (h:NodeL k E s) (sz b:Int) (p q:Value):((aC k E sz b p q s).drop 101).take 32=(s.drop 32).take 32:=by rw [mJ h sz b p q 36]; rfl
theorem zn {k:List UInt8} {E s:List Value} (h:NodeL k E s) (sz b:Int) (p q:Value):((aC k E sz b p q s).drop 0).take 133=aC k E sz b p q s:=by rw [List.drop_zero]; exact TJ (by rw [aF h]; exact TG _)
def ent0:List Value:= .int .i64 0::dc (List.replicate 32 0)
theorem gY:ent0.length=33:=by unfold ent0; rw [List.length_cons,aj,List.length_replicate]
theorem Dv:∀ v∈ent0,v.oneCell'=true:=fun v hv=>by
 rcases List.mem_cons.1 hv with rfl | h
 ·rfl
 ·exact bz _ v h
def aN (q:Bool) (b:Nat) (l r:Rx):List Value:=if q then dc (l.lift 32 (255-b))++dc (r.lift 32 (255-b)) else List.replicate 64 (.int .u8 0)
theorem kD (q:Bool) (b:Nat) (l r:Rx):(aN q b l r).length=64:=by
 unfold aN
 split
 ·rw [List.length_append,aj,aj,Rx.lift_length,Rx.lift_length]
 ·exact List.length_replicate ..
theorem yO (q:Bool) (b:Nat) (l r:Rx):∀ v∈aN q b l r,v.oneCell'=true:=fun v hv=>by
 unfold aN at hv
 split at hv
 ·rcases List.mem_append.1 hv with h | h <;> exact bz _ v h
 ·rw [List.eq_of_mem_replicate hv]; rfl
theorem Ov (b:Nat) (l r:Rx):(aN true b l r).take 32=dc (l.lift 32 (255-b)):=List.take_left' (by rw [aj,Rx.lift_length])
theorem Ou (b:Nat) (l r:Rx):((aN true b l r).drop 32).take 32=dc (r.lift 32 (255-b)):=by
 unfold aN
 rw [if_pos rfl,List.drop_left' (by rw [aj,Rx.lift_length]),TJ (by rw [aj,Rx.lift_length]; exact TG _)]
abbrev ptr (g:Nat):Value:= .pointer (some ⟨g,0,none⟩)
def Tr (w0:World) (R:List Seg) (q:Bool):Rx→Nat→Prop
 | .leaf i,g=>Rw w0 R g (aU i)
 | .fork b l r,g=>∃ gl gr,Rw w0 R g (aC l.key ent0 ((l.size+r.size:Nat):Int) (b:Int) (ptr gl) (ptr gr) (aN q b l r))∧Tr w0 R q l gl∧Tr w0 R q r gr
theorem Tr.mono {w0:World} {R S:List Seg} {q:Bool} (hs:R⊆S):∀ {t:Rx} {g:Nat},Tr w0 R q t g→Tr w0 S q t g
 | .leaf _,_,h=>Rw.mono h hs
 | .fork _ _ _,_,⟨gl,gr,h1,h2,h3⟩=>⟨gl,gr,h1.mono hs,Tr.mono hs h2,Tr.mono hs h3⟩
def TrO (q:Bool):Rx→Nat→Seg→Prop
 | .leaf i,g,Y=>Y=[row g 117 (aU i)]
 | .fork b l r,g,Y=>∃ gl gr Yl Yr,Y=row g 117 (aC l.key ent0 ((l.size+r.size:Nat):Int) (b:Int) (ptr gl) (ptr gr) (aN q b l r))::(Yl++Yr)∧TrO q l gl Yl∧TrO q r gr Yr
theorem TrO.trIn {w0:World} {R:List Seg} {q:Bool} {Y:Seg} (hY:Y∈R):∀ {t:Rx} {g:Nat} {X:Seg},TrO q t g X→(∀ x∈X,x∈Y)→Tr w0 R q t g
 | .leaf i,g,X,h,hs=>by
  have h':X=[row g 117 (aU i)]:=h
  subst h'
  exact Rw.ofMem hY (hs _ (TF ..))
 | .fork _ _ _,g,X,⟨gl,gr,Yl,Yr,h,h2,h3⟩,hs=>by
  subst h
  exact ⟨gl,gr,Rw.ofMem hY (hs _ (TF ..)),TrO.trIn hY h2 (fun x hx=>hs x (TI _ (TD _ hx))),TrO.trIn hY h3 (fun x hx=>hs x (TI _ (TE _ hx)))⟩
theorem TrO.tr {w0:World} {R:List Seg} {q:Bool} {Y:Seg} {t:Rx} {g:Nat} (h:TrO q t g Y) (hY:Y∈R):Tr w0 R q t g:=TrO.trIn hY h fun _ hx=>hx
theorem Tr.view {w0:World} {R:List Seg} {q:Bool} {t:Rx} {g:Nat} (hg:t.Good) (h:Tr w0 R q t g):∃ E p p' s,NodeL t.key E s∧Rw w0 R g (aC t.key E (t.size:Int) (t.bit:Int) p p' s):=by
 cases t with
 | leaf i=>exact ⟨i.ent,.pointer none,.pointer none,List.replicate 64 (.int .u8 0),⟨hg.k,by unfold Itm.ent; rw [List.length_cons,aj,hg.ch],List.length_replicate ..⟩,h⟩
 | fork b l r =>
  obtain ⟨gl,gr,h1,_,_⟩:=h
  exact ⟨ent0,ptr gl,ptr gr,_,⟨hg.key,gY,kD ..⟩,h1⟩
theorem Tr.viewF {w0:World} {R:List Seg} {q:Bool} {b:Nat} {l r:Rx} {g:Nat} (hg:(Rx.fork b l r).Good) (h:Tr w0 R q (.fork b l r) g):NodeL l.key ent0 (aN q b l r)∧∃ gl gr,Rw w0 R g (aC l.key ent0 ((l.size+r.size:Nat):Int) (b:Int) (ptr gl) (ptr gr) (aN q b l r))∧Tr w0 R q l gl∧Tr w0 R q r gr:=⟨⟨hg.key,gY,kD ..⟩,h⟩
theorem NodeL.leaf {i:Itm} (hi:i.OK):NodeL i.k i.ent (List.replicate 64 (.int .u8 0)):=⟨hi.k,by unfold Itm.ent; rw [List.length_cons,aj,hi.ch],List.length_replicate ..⟩
theorem Rx.lift_self (width:Int) (t:Rx):t.lift width (256-t.bit)=t.own width:=by unfold Rx.lift; rw [Nat.sub_self]; rfl
theorem Rx.lift_next (width:Int) (t:Rx) {h:Nat} (hh:256-t.bit≤h):t.lift width (h+1)=kW width t.key (t.lift width h) (aK width h) h:=by
 unfold Rx.lift
 rw [show h+1-(256-t.bit)=(h-(256-t.bit))+1 by omega]
 show kW width t.key _ (aK width (256-t.bit+(h-(256-t.bit)))) (256-t.bit+(h-(256-t.bit)))=_
 rw [show 256-t.bit+(h-(256-t.bit))=h by omega]
theorem Rx.isLeaf {t:Rx} (h:t.Good) (hb:t.bit=256):∃ i,t= .leaf i:=by
 cases t with
 | leaf i=>exact ⟨i,rfl⟩
 | fork b l r =>
  obtain ⟨h1,_,h3,_⟩:=h
  have:=Rx.bit_le h1
  have hb':b=256:=hb
  omega
theorem Rx.isFork {t:Rx} (hb:¬ t.bit=256):∃ b l r,t= .fork b l r:=by
 cases t with
 | leaf i=>exact absurd rfl hb
 | fork b l r=>exact ⟨b,l,r,rfl⟩
theorem FD:∀ z:Fin 256,z.val≠0→8-Lib.bitLen z.val<8∧(∀ j:Fin 8,j.val<8-Lib.bitLen z.val→z.val/2 ^ (7-j.val)%2=0)∧z.val/2 ^ (7-(8-Lib.bitLen z.val))%2=1:=by decide +kernel
theorem FP (x y m:Nat):(x ^^^ y)/2 ^ m%2=(x/2 ^ m%2+y/2 ^ m%2)%2:=by
 have h:=Nat.testBit_xor x y m
 simp only [Nat.testBit_eq_decide_div_mod_eq] at h
 rcases Nat.mod_two_eq_zero_or_one (x/2 ^ m) with h1 | h1 <;> rcases Nat.mod_two_eq_zero_or_one (y/2 ^ m) with h2 | h2 <;> rcases Nat.mod_two_eq_zero_or_one ((x ^^^ y)/2 ^ m) with h3 | h3 <;> rw [h1,h2,h3] at h <;> rw [h1,h2,h3] <;> simp at h <;> rfl
def lzN (x y:UInt8):Nat:=8-Lib.bitLen (x ^^^ y).toNat
theorem C9 {x y:UInt8} (h:x≠y):lzN x y<8∧(∀ j,j<lzN x y→x.toNat/2 ^ (7-j)%2=y.toNat/2 ^ (7-j)%2)∧x.toNat/2 ^ (7-lzN x y)%2≠y.toNat/2 ^ (7-lzN x y)%2:=by
 have hz:(x ^^^ y).toNat≠0:=fun e=>h (by
  have e2:x ^^^ y=0:=UInt8.toNat_inj.1 e
  exact UInt8.xor_eq_zero_iff.1 e2)
 obtain ⟨h1,h2,h3⟩:=FD ⟨(x ^^^ y).toNat,(x ^^^ y).toNat_lt⟩ hz
 refine ⟨h1,fun j hj=>?_,?_⟩
 ·have e:=h2 ⟨j,Nat.lt_trans hj h1⟩ hj
  simp only [UInt8.toNat_xor] at e
  rw [FP] at e
  have:=Nat.mod_lt (x.toNat/2 ^ (7-j)) (by decide:0<2)
  have:=Nat.mod_lt (y.toNat/2 ^ (7-j)) (by decide:0<2)
  omega
 ·have e:(x ^^^ y).toNat/2 ^ (7-lzN x y)%2=1:=h3
  rw [UInt8.toNat_xor,FP] at e
  have:=Nat.mod_lt (x.toNat/2 ^ (7-lzN x y)) (by decide:0<2)
  have:=Nat.mod_lt (y.toNat/2 ^ (7-lzN x y)) (by decide:0<2)
  omega
theorem II {a b:List UInt8} {i:Nat} (hi:i<32) (h:∀ j,j<i→bAt a j=bAt b j) (hne:bAt a i≠bAt b i):bI a b=8*i+lzN (bAt a i) (bAt b i):=by
 obtain ⟨h1,h2,h3⟩:=C9 hne
 refine kG ag (fun j hj=>?_) (fun _=>?_)
 ·unfold bK
  rcases Nat.lt_or_ge (j/8) i with h4 | h4
  ·rw [h _ h4]
  ·obtain rfl:j/8=i:=by omega
   exact h2 (j%8) ag
 ·unfold bK
  rw [show (8*i+lzN (bAt a i) (bAt b i))/8=i by omega,show (8*i+lzN (bAt a i) (bAt b i))%8=lzN (bAt a i) (bAt b i) by omega]
  exact h3
theorem CO {a b:List UInt8} (h:∀ j,j<32→bAt a j=bAt b j):bI a b=256 :=
 kG (TG _) (fun j hj=>by unfold bK; rw [h _ ag]) (fun h=>absurd h (Nat.lt_irrefl _))
theorem Qx {x y:UInt8} (h:x≠y):((x.toNat:Int))≠(y.toNat:Int):=fun e=>h (UInt8.toNat_inj.1 ag)
theorem u8_xor (x y:UInt8):bits .xor .u8 (x.toNat:Int) (y.toNat:Int)=((x ^^^ y).toNat:Int):=by
 rw [u8_xor_nat _ _ x.toNat_lt y.toNat_lt,UInt8.toNat_xor]
theorem OU (w0 w:World) (R:List Seg) (b:UInt8) (hA:Hp w0 R w):Calls Tryz.prog 96 #[.int .u8 (b.toNat:Int)] w fun e w'=>e= .returned (.int .i64 ((Lib.bitLen b.toNat:Nat):Int))∧Hp w0 R w':=by
 have h0:(0:Int)≤(b.toNat:Int):=by omega
 have h1:(b.toNat:Int)≤255:=by have:=b.toNat_lt; omega
 have h2:Calls Tryz.prog 96 #[.int .u8 (b.toNat:Int)] w fun e w'=>e= .returned (.int .i64 (Lib.bitLen (b.toNat:Int).toNat))∧w'=w:=by
  rw [← Lib.len8_int _ h0 h1]
  go_enter Tryz.func96,Tryz.ntmps96
  go_wp2
  go_ret
  exact ⟨by simp [wrap64],rfl⟩
 refine h2.mono ?_
 rintro e w' ⟨rfl,rfl⟩
 exact ⟨rfl,hA⟩
theorem gQ {w0 w:World} {R:List Seg} {k:List UInt8} {i:Nat} {z:Nat} (hz:bK k i=z) (hk:k.length=32) (hi:i<256) (hA:Hp w0 R w):Calls Tryz.prog 63 #[.agg (dc k).toArray,.int .i64 (i:Int)] w fun e w'=>e= .returned (.int .i64 (z:Int))∧Hp w0 R w':=by subst hz; exact wI w0 w R k i hk hi hA
theorem pF:(Tryz.prog.info? 114).map (·.size)=some 2:=af
theorem yN:(Tryz.prog.info? 115).map (·.size)=some 64:=af
theorem DL:aG Tryz.prog 57:=⟨_,Tryz.func57,af,af⟩
theorem Na:aG Tryz.prog 77:=⟨_,Tryz.func77,af,af⟩
theorem xQ:aG Tryz.prog 76:=⟨_,Tryz.func76,af,af⟩
theorem MZ:aG Tryz.prog 78:=⟨_,Tryz.func78,af,af⟩
theorem DI:aG Tryz.prog 64:=⟨_,Tryz.func64,af,af⟩
theorem Jd:aG Tryz.prog 88:=⟨_,Tryz.func88,af,af⟩
theorem Jc:aG Tryz.prog 96:=⟨_,Tryz.func96,af,af⟩
theorem Rk (w0 w:World) (R:List Seg) (b:UInt8) (hA:Hp w0 R w):Calls Tryz.prog 88 #[.int .u8 (b.toNat:Int)] w fun e w'=>e= .returned (.int .i64 ((8-Lib.bitLen b.toNat:Nat):Int))∧Hp w0 R w':=by
 have hb8:=Lib.bitLen_le8' (b.toNat:Int) ag (by have:=b.toNat_lt; omega)
 rw [Int.toNat_natCast] at hb8
 refine aJ Tryz.func88 O Tryz.ntmps88 ai (fun a hF=>?_)
 refine wS hF fun K1 hK1=>vX O<|vE hK1<|wT fun K2 hK2=>vX O fun a hF=>?_
 refine au O (fun K hK=>ax hF O ae Jc rfl rfl ?_)
 with_reducible refine (OU w0 _ R b hA).mono ?_
 rintro e' w1 ⟨rfl,hA2⟩
 refine ⟨_,rfl,fun a hF=>hK _ _ ?_⟩
 replace hA2:Hp w0 (R) w1:=hA2
 refine vR hF<|vV O (dm O O O (show IntKind.i64.wrap (8-((Lib.bitLen b.toNat:Nat):Int))=((8-Lib.bitLen b.toNat:Nat):Int) by rw [TB _ ag]; omega)) fun a hF=>?_
 refine vR hF<|vX O<|vE hK2 fun a hF=>?_
 apply wp_ret
 refine aO hF Tryz.results88 O ?_
 exact ⟨rfl,hA2⟩
theorem o5 (w0 w:World) (R:List Seg) (kx ky:List UInt8) (ha:kx.length=32) (hb:ky.length=32) (hA:Hp w0 R w):Calls Tryz.prog 62 #[.agg (dc kx).toArray,.agg (dc ky).toArray] w fun e w'=>e= .returned (.int .i64 ((bI kx ky:Nat):Int))∧Hp w0 R w':=by
 have hda:(dc kx).length=32:=by rw [aj,ha]
 have hdb:(dc ky).length=32:=by rw [aj,hb]
 refine aJ Tryz.func62 O Tryz.ntmps62 ai (fun a hF=>?_)
 refine wp_seq_k fun K1 hK1=>wp_region_lit ?_
 refine au O (fun K hK=>bC (cs:=dc kx) hF O ae rfl hA O (fun b1 w2 a hb1 hF hA3=>hK _ _ ?_))
 refine au O (fun K hK=>bC (cs:=dc ky) hF O ae rfl hA3 O (fun b4 w5 a hb4 hF hA6=>hK _ _ ?_))
 refine vR hF<|vX O<|vE hK1<|wQ fun K2 hK2=>wT fun K3 hK3=>vX O<|vE hK3<|wBk fun a hF=>?_
 refine bQ (G:=Nat) (fun i a x=>i≤32∧(∀ j,j<i→bAt kx j=bAt ky j)∧Fr 28 [(6,.int .i64 (i:Int)),(2,.pointer (some ⟨b1,0,none⟩)),(3,.pointer (some ⟨b4,0,none⟩))] a∧Hp w0 ([row b4 25 (dc ky)]::[row b1 25 (dc kx)]::R) x) (fun i=>32-i) 0 (⟨Tv _,(fun j hj=>absurd hj (Nat.not_lt_zero _)),hF.keep [6,2,3] rfl,hA6⟩) ?_
 clear hF
 rintro i a w8 ⟨hi,hall,hF,hA7⟩
 refine wS hF fun K4 hK4=>vV O (aH O O O O O)<|vE hK4<|wQ fun K5 hK5 a hF=>?_
 by_cases hlt:i<32
 ·refine aZ hF O (dB ag) ?_
  by_cases hne:bAt kx i≠bAt ky i
  ·have hnn:=Qx hne
   apply wp_skip
   refine hK5 _ _ ?_
   apply wp_seq_k; intro K6 hK6
   apply wp_block
   refine wS hF fun K7 hK7=>vX O<|vX O<|vE hK7<|wQ fun K8 hK8 a hF=>?_
   refine ak 6 [6] [0,1,2,3,4,5,6] _ af af (Hq.drew hA7.q) ?_
   have hA9:=Hl.drew hA7
   refine pR hF<|pX O O<|pW O O (fun _=>aP O Tz D5 rfl rfl i rfl hlt (ad1 _ _) (rfl:(none:Option Nat)=none))<|pV O O (fun x hx=>aX O hx O 1 O (iP (by rw [ha]; exact hlt)) Aq) fun a hF=>?_
   refine pR hF<|pX O O<|pW O O (fun _=>aP O Tz D5 rfl rfl i rfl hlt (ad1 _ _) (rfl:(none:Option Nat)=none))<|pV O O (fun x hx=>aX O hx O 0 O (iP (by rw [hb]; exact hlt)) Aq) fun a hF=>?_
   refine bY hF O O O O ae _ (aH O O O O (nS ag)) (fun h=>absurd h ae) (fun a hF=>?_)
   refine aB ?_
   refine hK8 _ _ ?_
   refine eP hF O ?_
   have hlz:=(C9 hne).1
   have hpa:=II (a:=kx) (b:=ky) hlt hall hne
   apply wp_seq_k; intro K9 hK9
   refine ak 11 [9,11] [0,1,2,3,4,5,6,7,8,9,10,11] _ af af (Hq.drew hA9.q) ?_
   have hA10:=Hl.drew hA9
   refine pR hF<|pX O O<|pW O O (fun _=>uw O O O (show IntKind.i64.wrap (8*(i:Int))=((8*i:Nat):Int) by rw [TB _ ag]; omega)) fun a hF=>?_
   refine pR hF<|pX O O<|pW O O (fun _=>aP O Tz D5 rfl rfl i rfl hlt (ad1 _ _) (rfl:(none:Option Nat)=none))<|pV O O (fun x hx=>aX O hx O 1 O (iP (by rw [ha]; exact hlt)) Aq) fun a hF=>?_
   refine pR hF<|pX O O<|pW O O (fun _=>aP O Tz D5 rfl rfl i rfl hlt (ad1 _ _) (rfl:(none:Option Nat)=none))<|pV O O (fun x hx=>aX O hx O 0 O (iP (by rw [hb]; exact hlt)) Aq) fun a hF=>?_
   refine pR hF<|pW O O (fun _=>kR O O O (u8_xor _ _)) fun a hF=>?_
   refine bM O O O (fun K hK=>ax hF O ae Jd rfl rfl ?_)
   with_reducible refine (Rk w0 _ ([row b4 25 (dc ky)]::[row b1 25 (dc kx)]::R) (bAt kx i ^^^ bAt ky i) hA10).mono ?_
   rintro e' w11 ⟨rfl,hA12⟩
   refine ⟨_,rfl,fun a hF=>hK _ _ (fun _=>?_) ?_⟩
   ·exact hA12.q
   replace hA12:Hp w0 ([row b4 25 (dc ky)]::[row b1 25 (dc kx)]::R) w11:=hA12
   rw [show 8-Lib.bitLen (bAt kx i ^^^ bAt ky i).toNat=lzN (bAt kx i) (bAt ky i) from rfl] at hF
   refine pR hF<|pW O O (fun _=>bH O O O (show IntKind.i64.wrap (((8*i:Nat):Int)+((lzN (bAt kx i) (bAt ky i):Nat):Int))=((bI kx ky:Nat):Int) by rw [TB _ ag,hpa]; omega)) fun a hF=>?_
   refine bY hF O O O O ae _ (bJ O O) (fun h=>absurd h ae) (fun a hF=>?_)
   refine aB ?_
   refine hK9 _ _ ?_
   apply wp_ret
   simp only [Exit.then,Exit.inBlock]
   refine aO hF Tryz.results62 O ?_
   have hA13:Hp w0 (R) w11:=hpS 2 [] [0,1] hA12 rfl
   exact ⟨rfl,hA13⟩
  ·have hee:((bAt kx i).toNat:Int)=((bAt ky i).toNat:Int):=by rw [Decidable.not_not.1 hne]
   apply wp_skip
   refine hK5 _ _ ?_
   apply wp_seq_k; intro K10 hK10
   apply wp_block
   refine wS hF fun K11 hK11=>vX O<|vX O<|vE hK11<|wQ fun K12 hK12 a hF=>?_
   refine ak 6 [6] [0,1,2,3,4,5,6] _ af af (Hq.drew hA7.q) ?_
   have hA14:=Hl.drew hA7
   refine pR hF<|pX O O<|pW O O (fun _=>aP O Tz D5 rfl rfl i rfl hlt (ad1 _ _) (rfl:(none:Option Nat)=none))<|pV O O (fun x hx=>aX O hx O 1 O (iP (by rw [ha]; exact hlt)) Aq) fun a hF=>?_
   refine pR hF<|pX O O<|pW O O (fun _=>aP O Tz D5 rfl rfl i rfl hlt (ad1 _ _) (rfl:(none:Option Nat)=none))<|pV O O (fun x hx=>aX O hx O 0 O (iP (by rw [hb]; exact hlt)) Aq) fun a hF=>?_
   refine bY hF O O O O ae _ (aH O O O O (jb ag)) (fun h=>absurd h ae) (fun a hF=>?_)
   refine aB ?_
   refine hK12 _ _ ?_
   refine dL hF O ?_
   apply wp_skip
   refine hK10 _ _ ?_
   refine wp_region_lit ?_
   refine vR hF<|vV O (bH O O O (TB _ ag))<|vX O fun a hF=>?_
   refine az ?_
   exact ⟨i+1,ag,ag,(fun j hj=>by rcases Nat.lt_or_ge j i with h3 | h3; exact hall j h3; obtain rfl:j=i:=ag; exact Decidable.not_not.1 hne),hF.keep [6,2,3] rfl,hA14⟩
 ·refine aS hF O (dD ag) ?_
  have hpa:=CO (a:=kx) (b:=ky) (fun j hj=>hall j ag)
  apply wp_exit
  refine hK2 _ _ ?_
  refine wS hF fun K13 hK13=>vV O (bJ O (show some (Value.int .i64 256)=some (.int .i64 ((bI kx ky:Nat):Int)) by rw [hpa]; rfl))<|vE hK13 fun a hF=>?_
  apply wp_ret
  refine aO hF Tryz.results62 O ?_
  have hA15:Hp w0 (R) w8:=hpS 2 [] [0,1] hA7 rfl
  exact ⟨rfl,hA15⟩
theorem iy (w0 w:World) (R G:List Seg) (hG:G⊆R) (k:List UInt8) (E s:List Value) (sz:Int) (b:Nat) (p q:Value) (hL:NodeL k E s) (gn:Nat) (hN:Rw w0 G gn (aC k E sz (b:Int) p q s)) (hb:b≤256) (hA:Hp w0 R w):Calls Tryz.prog 76 #[.pointer (some ⟨gn,0,none⟩)] w fun e w'=>e= .returned (.int .i64 ((256-b:Nat):Int))∧Hp w0 R w':=by
 refine aJ Tryz.func76 O Tryz.ntmps76 ai (fun a hF=>?_)
 refine wS hF fun K1 hK1=>vX O<|vE hK1<|wT fun K2 hK2=>vX O<|vX O<|vV O (yf 66 rfl Uj O QY O)<|vV O (bD O (Hq.sub hA.q (List.Subset.trans hG (bu))) O hN 66 (by rw [aF hL]; decide) rfl (dA hL _ _ _ _) Bq) fun a hF=>?_
 refine vR hF<|vV O (dm O O O (show IntKind.i64.wrap (256-(b:Int))=((256-b:Nat):Int) by rw [TB _ ag]; omega)) fun a hF=>?_
 refine vR hF<|vX O<|vE hK2 fun a hF=>?_
 apply wp_ret
 refine aO hF Tryz.results76 O ?_
 exact ⟨rfl,hA⟩
abbrev FN (w0:World) (width:Int) (t:Rx):Prop:=∀ (w:World) (R G:List Seg),G⊆R→∀ gs gn:Nat,Sm w0 G 60 gs width→Tr w0 G true t gn→Hp w0 R w→Calls Tryz.prog 77 #[.pointer (some ⟨gs,0,none⟩),.pointer (some ⟨gn,0,none⟩)] w fun e w'=>e= .returned (.agg (dc (t.own width)).toArray)∧Hp w0 R w'
theorem wZ (w0 w:World) (R G:List Seg) (hG:G⊆R) (t:Rx) (hg:t.Good) (gn:Nat) (gs:Nat) (width:Int) (H:Nat) (hH:256-t.bit≤H) (hH2:H≤256) (hown:FN w0 width t) (hSm:Sm w0 G 60 gs width) (hTr:Tr w0 G true t gn) (hT:Tab w0) (hA:Hp w0 R w):Calls Tryz.prog 57 #[.pointer (some ⟨gs,0,none⟩),.pointer (some ⟨gn,0,none⟩),.int .i64 (H:Int)] w fun e w'=>e= .returned (.agg (dc (t.lift width H)).toArray)∧Hp w0 R w':=by
 have hSm2:=hSm
 obtain ⟨AE,cE,wb,hs1,hs2,hs3⟩:=hSm2
 have hbl:=Rx.bit_le hg
 have hkl:=hg.key
 obtain ⟨E,p,p',s,hL,hN⟩:=Tr.view hg hTr
 have hel:(t.own width).length=32:=Rx.own_length width t
 have hdd:(dc (t.own width)).length=32:=by rw [aj,hel]
 refine aJ Tryz.func57 O Tryz.ntmps57 ai (fun a hF=>?_)
 refine wp_seq_k fun K1 hK1=>wp_region_lit ?_
 refine au O (fun K hK=>bG hF O ae rfl hA (jE) (fun b1 w2 a hb1 hF hA3=>hK _ _ ?_))
 refine az<|hK1 _ _ ?_
 refine wS hF fun K2 hK2=>vX O<|vX O fun a hF=>?_
 refine au O (fun K hK=>ax hF O ae Na rfl rfl ?_)
 with_reducible refine (hown _ ([row b1 25 (dc (List.replicate 32 0))]::R) G (List.Subset.trans hG (aA (bu))) gs gn hSm hTr hA3).mono ?_
 rintro e' w4 ⟨rfl,hA5⟩
 refine ⟨_,rfl,fun a hF=>hK _ _ ?_⟩
 refine au O (fun K hK=>bG hF O ae rfl hA5 (jE) (fun b6 w7 a hb6 hF hA8=>hK _ _ ?_))
 refine au O (fun K hK=>aI (new:=dc (t.own width)) hF O O hA8 O O 0 O (by rw [hdd]; rfl) (bz _) uX (fun w9 hA10=>hK _ _ ?_))
 replace hA10:Hp w0 ([row b6 25 (dc (t.own width))]::[row b1 25 (dc (List.replicate 32 0))]::R) w9:=hA10
 refine az<|hK2 _ _ ?_
 apply wp_seq_k; intro K3 hK3
 refine wS hF fun K4 hK4=>vX O fun a hF=>?_
 refine au O (fun K hK=>ax hF O ae xQ rfl rfl ?_)
 with_reducible refine (iy w0 _ ([row b6 25 (dc (t.own width))]::[row b1 25 (dc (List.replicate 32 0))]::R) G (List.Subset.trans hG (aA (aA (bu)))) t.key E s t.size t.bit p p' hL gn hN hbl hA10).mono ?_
 rintro e' w11 ⟨rfl,hA12⟩
 refine ⟨_,rfl,fun a hF=>hK _ _ ?_⟩
 replace hA12:Hp w0 ([row b6 25 (dc (t.own width))]::[row b1 25 (dc (List.replicate 32 0))]::R) w11:=hA12
 refine vR hF<|vX O<|vE hK4<|wBk fun a hF=>?_
 have hA13:Hp w0 ([row b6 25 (dc (t.lift width (256-t.bit)))]::[row b1 25 (dc (List.replicate 32 0))]::R) w11:=by rw [Rx.lift_self]; exact hA12
 refine bQ (G:=Nat) (fun h a x=>256-t.bit≤h∧h≤H∧Fr 35 [(8,.int .i64 (h:Int)),(0,.pointer (some ⟨gs,0,none⟩)),(1,.pointer (some ⟨gn,0,none⟩)),(2,.int .i64 ((H:Nat):Int)),(6,.pointer (some ⟨b1,0,none⟩)),(7,.pointer (some ⟨b6,0,none⟩))] a∧Hp w0 ([row b6 25 (dc (t.lift width h))]::[row b1 25 (dc (List.replicate 32 0))]::R) x) (fun h=>H-h) (256-t.bit) (⟨TG _,hH,hF.keep [8,0,1,2,6,7] rfl,hA13⟩) ?_
 clear hF
 rintro h a w15 ⟨h0h,hh,hF,hA14⟩
 apply wp_seq_k; intro K5 hK5
 refine wS hF fun K6 hK6=>vX O<|vX O<|vV O (aH O O O O O)<|vE hK6 fun a hF=>?_
 by_cases hlt:h<H
 ·refine aZ hF O (dB ag) ?_
  have hl:(t.lift width h).length=32:=Rx.lift_length width t h
  have hdl:(dc (t.lift width h)).length=32:=by rw [aj,hl]
  have hdle:=bZ width
  obtain ⟨herd,hele⟩:=iY (aK width) 257 h (fun i _=>hdle i) ag
  obtain ⟨be_,qe,hAE,hce⟩:=hs3.ne (i:=h*32) ag
  apply wp_skip
  refine hK5 _ _ ?_
  apply wp_seq_k; intro K7 hK7
  apply wp_block
  refine ak 15 [14,15] [0,1,2,3,4,5,6,7,8,9,10,11,12,13,14,15] _ af af (Hq.drew hA14.q) ?_
  have hA16:=Hl.drew hA14
  refine pR hF<|pX O O<|pX O O<|pX O O<|pW O O (fun _=>yf 0 O Uj O uX O)<|pV O O (fun x hx=>aQ O (Hq.sub hx (List.Subset.trans hG (aA (aA (bu))))) O hN 0 (by rw [aF hL]; decide) rfl (dV hL _ _ _ _) vw) fun a hF=>?_
  refine pR hF<|pX O O<|pV O O (fun x hx=>yZ (new:=dc (t.lift width h)) O hx O 0 O vw hdl)<|pX O O<|pX O O<|pW O O (fun _=>yf 1 O Uk O rC O)<|pV O O (fun x hx=>bD O (Hq.sub hx (List.Subset.trans hG (aA (aA (bu))))) O hs1 1 (by simp) rfl rfl rQ)<|pX O O<|pW O O (fun _=>bi O Tu uX (by exact congrArg (fun A=>some (Value.slice A 257 cE)) hAE) rfl h rfl ag rfl) fun a hF=>?_
  refine pR hF<|pV O O (fun x hx=>aQ O (Hq.sub hx (List.Subset.trans hG (aA (aA (bu))))) O hce (h*32) hele rfl herd vw) fun a hF=>?_
  refine bM O O O (fun K hK=>ax hF O ae MZ rfl rfl ?_)
  with_reducible refine (H9 w0 _ ([row b6 25 (dc (t.lift width h))]::[row b1 25 (dc (List.replicate 32 0))]::R) G (List.Subset.trans hG (aA (aA (bu)))) gs width t.key (t.lift width h) (aK width h) h ag hkl hl (hdle h) hSm hT hA16).mono ?_
  rintro e' w17 ⟨rfl,hA18⟩
  refine ⟨_,rfl,fun a hF=>hK _ _ (fun _=>?_) ?_⟩
  ·exact hA18.q
  replace hA18:Hp w0 ([row b6 25 (dc (t.lift width h))]::[row b1 25 (dc (List.replicate 32 0))]::R) w17:=hA18
  rw [← Rx.lift_next width t h0h] at hF
  refine bM O O O (fun K hK=>aI (new:=dc (t.lift width (h+1))) hF O O hA18 O O 0 O (by rw [hdl,aj,Rx.lift_length]) (bz _) (by rw [hdl]; exact uX) (fun w19 hA20=>hK _ _ (fun h=>absurd h ae) ?_))
  replace hA20:Hp w0 ([row b6 25 (dc (t.lift width (h+1)))]::[row b1 25 (dc (List.replicate 32 0))]::R) w19:=hA20
  refine aB ?_
  refine hK7 _ _ ?_
  refine wp_region_lit ?_
  refine vR hF<|vX O<|vV O (bH O O O (TB _ ag))<|vX O fun a hF=>?_
  refine az ?_
  exact ⟨h+1,ag,ag,ag,hF.keep [8,0,1,2,6,7] rfl,hA20⟩
 ·refine aS hF O (dD ag) ?_
  obtain rfl:h=H:=by omega
  have hdl:(dc (t.lift width h)).length=32:=by rw [aj,Rx.lift_length]
  apply wp_exit
  refine hK3 _ _ ?_
  refine wS hF fun K8 hK8=>vV O (yZ (new:=dc (t.lift width h)) O hA14.q O 0 O vw hdl) fun a hF=>?_
  refine au O (fun K hK=>aI (new:=dc (t.lift width h)) hF O O hA14 O O 1 O (by rw [hdl]; rfl) (bz _) uX (fun w21 hA22=>hK _ _ ?_))
  replace hA22:Hp w0 ([row b6 25 (dc (t.lift width h))]::[row b1 25 (dc (t.lift width h))]::R) w21:=hA22
  refine az<|hK8 _ _ ?_
  apply wp_ret
  refine fD hF Tryz.results57 hA22.q O 1 O (by rw [hdl]; exact vw) ?_
  have hA23:Hp w0 (R) w21:=hpS 2 [] [0,1] hA22 rfl
  exact ⟨rfl,hA23⟩
theorem BU (w0 w:World) (R G:List Seg) (hG:G⊆R) (b:Nat) (l r:Rx) (hg:(Rx.fork b l r).Good) (gn gs:Nat) (width:Int) (hown:FN w0 width l) (hSm:Sm w0 G 60 gs width) (hTr:Tr w0 G true (.fork b l r) gn) (hT:Tab w0) (hA:Hp w0 R w):Calls Tryz.prog 64 #[.pointer (some ⟨gs,0,none⟩),.pointer (some ⟨gn,0,none⟩),.int .i64 0] w fun e w'=>e= .returned (.agg (dc (l.lift width (255-b))).toArray)∧Hp w0 R w':=by
 have hSm2:=hSm
 obtain ⟨AE,cE,wb,hs1,hs2,hs3⟩:=hSm2
 have hg0:=hg
 obtain ⟨hgl,hgr,hbl,hbr,_,_⟩:=hg0
 have hll:=Rx.bit_le hgl
 have hrr:=Rx.bit_le hgr
 obtain ⟨hL,gl,gr,hN,hTl,hTr2⟩:=Tr.viewF hg hTr
 have hdd:(dc (l.lift width (255-b))).length=32:=by rw [aj,Rx.lift_length]
 refine aJ Tryz.func64 O Tryz.ntmps64 ai (fun a hF=>?_)
 refine wp_seq_k fun K1 hK1=>wp_region_lit ?_
 refine au O (fun K hK=>bG hF O ae rfl hA (jE) (fun b1 w2 a hb1 hF hA3=>hK _ _ ?_))
 refine az<|hK1 _ _ ?_
 apply wp_seq_k; intro K2 hK2
 apply wp_seq_k; intro K3 hK3
 by_cases hw:width=32
 ·subst hw
  refine wp_region_lit ?_
  refine vR hF<|vX O<|vX O<|vV O (yf 0 O Uk O QY O)<|vV O (bD O (Hq.sub hA3.q (List.Subset.trans hG (aA (bu)))) O hs1 0 (by simp) rfl rfl Bq)<|vV O (aH O O O O (gJ ag))<|vE hK3<|vT1 O<|wT fun K4 hK4=>vX O<|vX O<|vX O<|vV O (yf 69 rfl Uj O yN O)<|vV O (aP O Un uX O O 0 O ae (rfl:(⟨_,69+0*32,none⟩:Addr)=⟨_,69,none⟩) (rfl:(none:Option Nat)=none))<|vV O (aQ O (Hq.sub hA3.q (List.Subset.trans hG (aA (bu)))) O hN 69 (by rw [aF hL]; decide) rfl ((Md hL _ _ _ _).trans (Ov b l r)) vw) fun a hF=>?_
  refine au O (fun K hK=>aI (new:=dc (l.lift 32 (255-b))) hF O O hA3 O O 0 O (by rw [hdd]; rfl) (bz _) (by exact uX) (fun w4 hA5=>hK _ _ ?_))
  replace hA5:Hp w0 ([row b1 25 (dc (l.lift 32 (255-b)))]::R) w4:=hA5
  refine az<|hK4 _ _ ?_
  apply wp_ret
  simp only [Exit.then]
  refine fD hF Tryz.results64 hA5.q O 0 O (by rw [hdd]; exact vw) ?_
  have hA6:Hp w0 (R) w4:=hpS 1 [] [0] hA5 rfl
  exact ⟨rfl,hA6⟩
 ·refine wp_region_lit ?_
  refine vR hF<|vX O<|vX O<|vV O (yf 0 O Uk O QY O)<|vV O (bD O (Hq.sub hA3.q (List.Subset.trans hG (aA (bu)))) O hs1 0 (by simp) rfl rfl Bq)<|vV O (aH O O O O (fJ ag))<|vE hK3<|vF1 O<|wKp hK2<|wQ fun K5 hK5 a hF=>?_
  refine ak 11 [8,10,11] [0,1,2,3,4,5,6,7,8,9,10,11] _ af af (Hq.drew hA3.q) ?_
  have hA7:=Hl.drew hA3
  refine pR hF<|pX O O<|pX O O<|pX O O<|pX O O<|pW O O (fun _=>yf 67 rfl Uj O pF O)<|pW O O (fun _=>aP O Um Oo O O 0 O ae (rfl:(⟨_,67+0*1,none⟩:Addr)=⟨_,67,none⟩) (rfl:(none:Option Nat)=none))<|pV O O (fun x hx=>bD O (Hq.sub hx (List.Subset.trans hG (aA (bu)))) O hN 67 (by rw [aF hL]; decide) rfl (eX hL _ _ _ _) Pi) fun a hF=>?_
  refine pR hF<|pX O O fun a hF=>?_
  refine bM O O O (fun K hK=>ax hF O ae xQ rfl rfl ?_)
  with_reducible refine (iy w0 _ ([row b1 25 (dc (List.replicate 32 0))]::R) G (List.Subset.trans hG (aA (bu))) l.key ent0 (aN true b l r) _ b (ptr gl) (ptr gr) hL gn hN ag hA7).mono ?_
  rintro e' w8 ⟨rfl,hA9⟩
  refine ⟨_,rfl,fun a hF=>hK _ _ (fun _=>?_) ?_⟩
  ·exact hA9.q
  replace hA9:Hp w0 ([row b1 25 (dc (List.replicate 32 0))]::R) w8:=hA9
  refine pR hF<|pW O O (fun _=>dm O O O (show IntKind.i64.wrap (((256-b:Nat):Int)-1)=((255-b:Nat):Int) by rw [TB _ ag]; omega)) fun a hF=>?_
  refine bM O O O (fun K hK=>ax hF O ae DL rfl rfl ?_)
  with_reducible refine (wZ w0 _ ([row b1 25 (dc (List.replicate 32 0))]::R) G (List.Subset.trans hG (aA (bu))) l hgl gl gs width (255-b) ag ag hown hSm hTl hT hA9).mono ?_
  rintro e' w10 ⟨rfl,hA11⟩
  refine ⟨_,rfl,fun a hF=>hK _ _ (fun _=>?_) ?_⟩
  ·exact hA11.q
  refine bM O O O (fun K hK=>aI (new:=dc (l.lift width (255-b))) hF O O hA11 O O 0 O (by rw [hdd]; rfl) (bz _) (by exact uX) (fun w12 hA13=>hK _ _ (fun h=>absurd h ae) ?_))
  replace hA13:Hp w0 ([row b1 25 (dc (l.lift width (255-b)))]::R) w12:=hA13
  refine aB ?_
  refine hK5 _ _ ?_
  apply wp_ret
  refine fD hF Tryz.results64 hA13.q O 0 O (by rw [hdd]; exact vw) ?_
  have hA14:Hp w0 (R) w12:=hpS 1 [] [0] hA13 rfl
  exact ⟨rfl,hA14⟩
theorem BR (w0 w:World) (R G:List Seg) (hG:G⊆R) (b:Nat) (l r:Rx) (hg:(Rx.fork b l r).Good) (gn gs:Nat) (width:Int) (hown:FN w0 width r) (hSm:Sm w0 G 60 gs width) (hTr:Tr w0 G true (.fork b l r) gn) (hT:Tab w0) (hA:Hp w0 R w):Calls Tryz.prog 64 #[.pointer (some ⟨gs,0,none⟩),.pointer (some ⟨gn,0,none⟩),.int .i64 1] w fun e w'=>e= .returned (.agg (dc (r.lift width (255-b))).toArray)∧Hp w0 R w':=by
 have hSm2:=hSm
 obtain ⟨AE,cE,wb,hs1,hs2,hs3⟩:=hSm2
 have hg0:=hg
 obtain ⟨hgl,hgr,hbl,hbr,_,_⟩:=hg0
 have hll:=Rx.bit_le hgl
 have hrr:=Rx.bit_le hgr
 obtain ⟨hL,gl,gr,hN,hTl,hTr2⟩:=Tr.viewF hg hTr
 have hdd:(dc (r.lift width (255-b))).length=32:=by rw [aj,Rx.lift_length]
 refine aJ Tryz.func64 O Tryz.ntmps64 ai (fun a hF=>?_)
 refine wp_seq_k fun K1 hK1=>wp_region_lit ?_
 refine au O (fun K hK=>bG hF O ae rfl hA (jE) (fun b1 w2 a hb1 hF hA3=>hK _ _ ?_))
 refine az<|hK1 _ _ ?_
 apply wp_seq_k; intro K2 hK2
 apply wp_seq_k; intro K3 hK3
 by_cases hw:width=32
 ·subst hw
  refine wp_region_lit ?_
  refine vR hF<|vX O<|vX O<|vV O (yf 0 O Uk O QY O)<|vV O (bD O (Hq.sub hA3.q (List.Subset.trans hG (aA (bu)))) O hs1 0 (by simp) rfl rfl Bq)<|vV O (aH O O O O (gJ ag))<|vE hK3<|vT1 O<|wT fun K4 hK4=>vX O<|vX O<|vX O<|vV O (yf 69 rfl Uj O yN O)<|vV O (aP O Un uX O O 1 O ae (rfl:(⟨_,69+1*32,none⟩:Addr)=⟨_,101,none⟩) (rfl:(none:Option Nat)=none))<|vV O (aQ O (Hq.sub hA3.q (List.Subset.trans hG (aA (bu)))) O hN 101 (by rw [aF hL]; decide) rfl ((Mc hL _ _ _ _).trans (Ou b l r)) vw) fun a hF=>?_
  refine au O (fun K hK=>aI (new:=dc (r.lift 32 (255-b))) hF O O hA3 O O 0 O (by rw [hdd]; rfl) (bz _) (by exact uX) (fun w4 hA5=>hK _ _ ?_))
  replace hA5:Hp w0 ([row b1 25 (dc (r.lift 32 (255-b)))]::R) w4:=hA5
  refine az<|hK4 _ _ ?_
  apply wp_ret
  simp only [Exit.then]
  refine fD hF Tryz.results64 hA5.q O 0 O (by rw [hdd]; exact vw) ?_
  have hA6:Hp w0 (R) w4:=hpS 1 [] [0] hA5 rfl
  exact ⟨rfl,hA6⟩
 ·refine wp_region_lit ?_
  refine vR hF<|vX O<|vX O<|vV O (yf 0 O Uk O QY O)<|vV O (bD O (Hq.sub hA3.q (List.Subset.trans hG (aA (bu)))) O hs1 0 (by simp) rfl rfl Bq)<|vV O (aH O O O O (fJ ag))<|vE hK3<|vF1 O<|wKp hK2<|wQ fun K5 hK5 a hF=>?_
  refine ak 11 [8,10,11] [0,1,2,3,4,5,6,7,8,9,10,11] _ af af (Hq.drew hA3.q) ?_
  have hA7:=Hl.drew hA3
  refine pR hF<|pX O O<|pX O O<|pX O O<|pX O O<|pW O O (fun _=>yf 67 rfl Uj O pF O)<|pW O O (fun _=>aP O Um Oo O O 1 O ae (rfl:(⟨_,67+1*1,none⟩:Addr)=⟨_,68,none⟩) (rfl:(none:Option Nat)=none))<|pV O O (fun x hx=>bD O (Hq.sub hx (List.Subset.trans hG (aA (bu)))) O hN 68 (by rw [aF hL]; decide) rfl (gI hL _ _ _ _) Pi) fun a hF=>?_
  refine pR hF<|pX O O fun a hF=>?_
  refine bM O O O (fun K hK=>ax hF O ae xQ rfl rfl ?_)
  with_reducible refine (iy w0 _ ([row b1 25 (dc (List.replicate 32 0))]::R) G (List.Subset.trans hG (aA (bu))) l.key ent0 (aN true b l r) _ b (ptr gl) (ptr gr) hL gn hN ag hA7).mono ?_
  rintro e' w8 ⟨rfl,hA9⟩
  refine ⟨_,rfl,fun a hF=>hK _ _ (fun _=>?_) ?_⟩
  ·exact hA9.q
  replace hA9:Hp w0 ([row b1 25 (dc (List.replicate 32 0))]::R) w8:=hA9
  refine pR hF<|pW O O (fun _=>dm O O O (show IntKind.i64.wrap (((256-b:Nat):Int)-1)=((255-b:Nat):Int) by rw [TB _ ag]; omega)) fun a hF=>?_
  refine bM O O O (fun K hK=>ax hF O ae DL rfl rfl ?_)
  with_reducible refine (wZ w0 _ ([row b1 25 (dc (List.replicate 32 0))]::R) G (List.Subset.trans hG (aA (bu))) r hgr gr gs width (255-b) ag ag hown hSm hTr2 hT hA9).mono ?_
  rintro e' w10 ⟨rfl,hA11⟩
  refine ⟨_,rfl,fun a hF=>hK _ _ (fun _=>?_) ?_⟩
  ·exact hA11.q
  refine bM O O O (fun K hK=>aI (new:=dc (r.lift width (255-b))) hF O O hA11 O O 0 O (by rw [hdd]; rfl) (bz _) (by exact uX) (fun w12 hA13=>hK _ _ (fun h=>absurd h ae) ?_))
  replace hA13:Hp w0 ([row b1 25 (dc (r.lift width (255-b)))]::R) w12:=hA13
  refine aB ?_
  refine hK5 _ _ ?_
  apply wp_ret
  refine fD hF Tryz.results64 hA13.q O 0 O (by rw [hdd]; exact vw) ?_
  have hA14:Hp w0 (R) w12:=hpS 1 [] [0] hA13 rfl
  exact ⟨rfl,hA14⟩
theorem OQ (w0:World) (width:Int) (b:Nat) (l r:Rx) (hg:(Rx.fork b l r).Good) (hol:FN w0 width l) (hor:FN w0 width r) (hT:Tab w0):FN w0 width (.fork b l r):=by
 intro w R G hG gs gn hSm hTr hA
 have hSm2:=hSm
 obtain ⟨AE,cE,wb,hs1,hs2,hs3⟩:=hSm2
 have hg0:=hg
 obtain ⟨hgl,hgr,hbl,hbr,_,_⟩:=hg0
 have hll:=Rx.bit_le hgl
 obtain ⟨hL,gl,gr,hN,hTl,hTr2⟩:=Tr.viewF hg hTr
 have hdd:(dc ((Rx.fork b l r).own width)).length=32:=by rw [aj,Rx.own_length]
 refine aJ Tryz.func77 O Tryz.ntmps77 ai (fun a hF=>?_)
 refine wp_seq_k fun K1 hK1=>wp_region_lit ?_
 refine au O (fun K hK=>bG hF O ae rfl hA (jE) (fun b1 w2 a hb1 hF hA3=>hK _ _ ?_))
 refine az<|hK1 _ _ ?_
 apply wp_seq_k; intro K2 hK2
 refine wS hF fun K3 hK3=>vX O<|vX O<|vV O (yf 66 rfl Uj O QY O)<|vV O (bD O (Hq.sub hA3.q (List.Subset.trans hG (aA (bu)))) O hN 66 (by rw [aF hL]; decide) rfl (dA hL _ _ _ _) Bq) fun a hF=>?_
 refine vR hF<|vV O (aH O O O O (fJ ag))<|vE hK3<|vF1 O<|wKp hK2<|wQ fun K4 hK4 a hF=>?_
 refine ak 11 [6,9,10,11] [0,1,2,3,4,5,7,8,6,9,10,11] _ af af (Hq.drew hA3.q) ?_
 have hA4:=Hl.drew hA3
 refine pR hF<|pX O O<|pX O O<|pW O O (fun _=>yf 0 O Uk O QY O)<|pV O O (fun x hx=>bD O (Hq.sub hx (List.Subset.trans hG (aA (bu)))) O hs1 0 (by simp) rfl rfl Bq)<|pX O O<|pX O O<|pX O O<|pX O O fun a hF=>?_
 refine bM O O O (fun K hK=>ax hF O ae DI rfl rfl ?_)
 with_reducible refine (BU w0 _ ([row b1 25 (dc (List.replicate 32 0))]::R) G (List.Subset.trans hG (aA (bu))) b l r hg gn gs width hol hSm hTr hT hA4).mono ?_
 rintro e' w5 ⟨rfl,hA6⟩
 refine ⟨_,rfl,fun a hF=>hK _ _ (fun _=>?_) ?_⟩
 ·exact hA6.q
 replace hA6:Hp w0 ([row b1 25 (dc (List.replicate 32 0))]::R) w5:=hA6
 refine bM O O O (fun K hK=>ax hF O ae DI rfl rfl ?_)
 with_reducible refine (BR w0 _ ([row b1 25 (dc (List.replicate 32 0))]::R) G (List.Subset.trans hG (aA (bu))) b l r hg gn gs width hor hSm hTr hT hA6).mono ?_
 rintro e' w7 ⟨rfl,hA8⟩
 refine ⟨_,rfl,fun a hF=>hK _ _ (fun _=>?_) ?_⟩
 ·exact hA8.q
 replace hA8:Hp w0 ([row b1 25 (dc (List.replicate 32 0))]::R) w7:=hA8
 refine bM O O O (fun K hK=>ax hF O ae P9 rfl rfl ?_)
 with_reducible refine (pz w0 _ ([row b1 25 (dc (List.replicate 32 0))]::R) width (l.lift width (255-b)) (r.lift width (255-b)) (Rx.lift_length _ _ _) (Rx.lift_length _ _ _) hT hA8).mono ?_
 rintro e' w9 ⟨rfl,hA10⟩
 refine ⟨_,rfl,fun a hF=>hK _ _ (fun _=>?_) ?_⟩
 ·exact hA10.q
 replace hA10:Hp w0 ([row b1 25 (dc (List.replicate 32 0))]::R) w9:=hA10
 rw [show ofL width 4 (l.lift width (255-b)++r.lift width (255-b))=(Rx.fork b l r).own width from (Rx.own_fork hg).symm] at hF
 refine bM O O O (fun K hK=>aI (new:=dc ((Rx.fork b l r).own width)) hF O O hA10 O O 0 O (by rw [hdd]; rfl) (bz _) uX (fun w11 hA12=>hK _ _ (fun h=>absurd h ae) ?_))
 replace hA12:Hp w0 ([row b1 25 (dc ((Rx.fork b l r).own width))]::R) w11:=hA12
 refine aB ?_
 refine hK4 _ _ ?_
 apply wp_ret
 refine fD hF Tryz.results77 hA12.q O 0 O (by rw [hdd]; exact vw) ?_
 have hA13:Hp w0 (R) w11:=hpS 1 [] [0] hA12 rfl
 exact ⟨rfl,hA13⟩
theorem wY (w0:World) (width:Int) (hT:Tab w0):∀ t:Rx,t.Good→FN w0 width t
 | .leaf i,hg=>fun w R G hG gs gn hSm hTr hA=>Ri w0 w R G hG i hg gn hTr gs width hSm hT hA
 | .fork b l r,hg=>OQ w0 width b l r hg (wY w0 width hT l hg.1) (wY w0 width hT r hg.2.1) hT
theorem kN (w0 w:World) (R G:List Seg) (hG:G⊆R) (t:Rx) (hg:t.Good) (gn:Nat) (gs:Nat) (width:Int) (H:Nat) (hH:256-t.bit≤H) (hH2:H≤256) (hSm:Sm w0 G 60 gs width) (hTr:Tr w0 G true t gn) (hT:Tab w0) (hA:Hp w0 R w):Calls Tryz.prog 57 #[.pointer (some ⟨gs,0,none⟩),.pointer (some ⟨gn,0,none⟩),.int .i64 (H:Int)] w fun e w'=>e= .returned (.agg (dc (t.lift width H)).toArray)∧Hp w0 R w' :=
 wZ w0 w R G hG t hg gn gs width H hH hH2 (wY w0 width hT t hg) hSm hTr hT hA
theorem Gg (w0 w:World) (R G:List Seg) (hG:G⊆R) (t:Rx) (hg:t.Good) (gn:Nat) (q:Bool) (k:List UInt8) (hk:k.length=32) (hTr:Tr w0 G q t gn) (hA:Hp w0 R w):Calls Tryz.prog 53 #[.pointer (some ⟨gn,0,none⟩),.agg (dc k).toArray] w fun e w'=>((t.find k=none∧e= .returned (.pointer none))∨(∃ i g,t.find k=some i∧e= .returned (.pointer (some ⟨g,0,none⟩))∧i.OK∧Rw w0 G g (aU i)))∧Hp w0 R w':=by
 have hdk:(dc k).length=32:=by rw [aj,hk]
 obtain ⟨g,hgn⟩:∃ g,g=gn:=⟨_,rfl⟩
 rw [← hgn] at hTr
 subst hgn
 refine aJ Tryz.func53 O Tryz.ntmps53 ai (fun a hF=>?_)
 refine wp_seq_k fun K1 hK1=>wp_region_lit ?_
 refine au O (fun K hK=>bC (cs:=dc k) hF O ae rfl hA O (fun b1 w2 a hb1 hF hA3=>hK _ _ ?_))
 refine vR hF<|vX O<|vE hK1<|wQ fun K2 hK2=>wBk fun a hF=>?_
 refine bQ (G:=Rx × Nat) (fun gh a x=>gh.1.Good∧Tr w0 G q gh.1 gh.2∧gh.1.find k=t.find k∧Fr 36 [(0,.pointer (some ⟨gh.2,0,none⟩)),(3,.pointer (some ⟨b1,0,none⟩))] a∧Hp w0 ([row b1 25 (dc k)]::R) x) (fun gh=>gh.1.size) (t,g) (⟨hg,hTr,rfl,hF.keep [0,3] rfl,hA3⟩) ?_
 clear hF
 rintro gh a w5 ⟨hgi,hTi,hfi,hF,hA4⟩
 obtain ⟨t',g'⟩:=gh
 simp only at hgi hTi hfi hF
 obtain ⟨E,p,p',s,hL,hN⟩:=Tr.view hgi hTi
 have hbl:=Rx.bit_le hgi
 have hkl:=hgi.key
 by_cases hlf:t'.bit=256
 ·apply wp_seq_k; intro K3 hK3
  refine wS hF fun K4 hK4=>vX O<|vV O (lF O af rfl rfl)<|vX O<|vG O (bT O O)<|vG O (bP O O)<|vG O (yf 66 rfl Uj O QY O)<|vG O (bD O (Hq.sub hA4.q (List.Subset.trans hG (aA (bu)))) O hN 66 (by rw [aF hL]; decide) rfl (dA hL _ _ _ _) Bq) fun a hF=>?_
  refine vR hF<|vG O (aH O O O O (dD ag))<|vV O (bg O O O)<|vE hK4<|vF1 O fun a hF=>?_
  obtain ⟨i,rfl⟩:=Rx.isLeaf hgi hlf
  have hfi2:(if i.k=k then some i else none)=t.find k:=hfi
  have hL:=NodeL.leaf hgi
  have hN:Rw w0 G g' (aC i.k i.ent 1 256 (.pointer none) (.pointer none) (List.replicate 64 (.int .u8 0))):=hTi
  by_cases hik:i.k=k
  ·have hfk:t.find k=some i:=by rw [← hfi2,if_pos hik]
   apply wp_exit
   refine hK2 _ _ ?_
   apply wp_seq_k; intro K5 hK5
   apply wp_seq_k; intro K6 hK6
   refine ak 9 [9] [0,1,2,3,4,5,6,7,8,9] _ af af (Hq.drew hA4.q) ?_
   have hA6:=Hl.drew hA4
   refine pR hF<|pX O O<|pW O O (fun _=>iG O af rfl rfl)<|pX O O<|pG O O (fun _=>bT O O)<|pG O O (fun _=>bP O O)<|pG O O (fun _=>yf 0 O Uj O uX O) fun a hF=>?_
   refine dX hF O O O O O O O ae _ (fun x hx=>aQ O (Hq.sub hx (List.Subset.trans hG (aA (bu)))) O hN 0 (by rw [aF hL]; decide) rfl (dV hL _ _ _ _) vw) (fun a hF=>?_)
   refine dX hF O O O O O O O ae _ (fun x hx=>yZ (new:=dc k) rfl hx O 0 O vw hdk) (fun a hF=>?_)
   refine pR hF<|pG O O (fun _=>kS O Tz TA D5 af rfl rfl hgi.k hk (show (!decide (i.k=k))=false by rw [decide_eq_true hik]; rfl)) fun a hF=>?_
   refine bY hF O O O O ae _ (bg O O O) (fun h=>absurd h ae) (fun a hF=>?_)
   refine aB ?_
   refine hK6 _ _ ?_
   refine dL hF O ?_
   apply wp_skip
   refine hK5 _ _ ?_
   refine wS hF fun K7 hK7=>vX O<|vX O<|vE hK7 fun a hF=>?_
   apply wp_ret
   refine aO hF Tryz.results53 O ?_
   have hA7:Hp w0 (R) w5.drew:=hpS 1 [] [0] hA6 rfl
   exact ⟨.inr ⟨i,g',hfk,rfl,hgi,hTi⟩,hA7⟩
  ·have hfk:t.find k=none:=by rw [← hfi2,if_neg hik]
   apply wp_exit
   refine hK2 _ _ ?_
   apply wp_seq_k; intro K8 hK8
   apply wp_seq_k; intro K9 hK9
   refine ak 9 [9] [0,1,2,3,4,5,6,7,8,9] _ af af (Hq.drew hA4.q) ?_
   have hA8:=Hl.drew hA4
   refine pR hF<|pX O O<|pW O O (fun _=>iG O af rfl rfl)<|pX O O<|pG O O (fun _=>bT O O)<|pG O O (fun _=>bP O O)<|pG O O (fun _=>yf 0 O Uj O uX O) fun a hF=>?_
   refine dX hF O O O O O O O ae _ (fun x hx=>aQ O (Hq.sub hx (List.Subset.trans hG (aA (bu)))) O hN 0 (by rw [aF hL]; decide) rfl (dV hL _ _ _ _) vw) (fun a hF=>?_)
   refine dX hF O O O O O O O ae _ (fun x hx=>yZ (new:=dc k) rfl hx O 0 O vw hdk) (fun a hF=>?_)
   refine pR hF<|pG O O (fun _=>kS O Tz TA D5 af rfl rfl hgi.k hk (show (!decide (i.k=k))=true by rw [decide_eq_false hik]; rfl)) fun a hF=>?_
   refine bY hF O O O O ae _ (bg O O O) (fun h=>absurd h ae) (fun a hF=>?_)
   refine aB ?_
   refine hK9 _ _ ?_
   refine eP hF O ?_
   refine wS hF fun K10 hK10=>vX O<|vE hK10 fun a hF=>?_
   apply wp_ret
   simp only [Exit.then]
   refine aO hF Tryz.results53 O ?_
   have hA9:Hp w0 (R) w5.drew:=hpS 1 [] [0] hA8 rfl
   exact ⟨.inl ⟨hfk,rfl⟩,hA9⟩
 ·apply wp_seq_k; intro K11 hK11
  refine wS hF fun K12 hK12=>vX O<|vV O (lF O af rfl rfl)<|vX O<|vG O (bT O O)<|vG O (bP O O)<|vG O (yf 66 rfl Uj O QY O)<|vG O (bD O (Hq.sub hA4.q (List.Subset.trans hG (aA (bu)))) O hN 66 (by rw [aF hL]; decide) rfl (dA hL _ _ _ _) Bq) fun a hF=>?_
  refine vR hF<|vG O (aH O O O O (dB ag))<|vV O (bg O O O)<|vE hK12<|vT1 O fun a hF=>?_
  obtain ⟨b,l,r,rfl⟩:=Rx.isFork hlf
  have hb:b<256:=by show (Rx.fork b l r).bit<256; omega
  obtain ⟨hL,gl,gr,hN,hTl,hTr2⟩:=Tr.viewF hgi hTi
  have hg1:=hgi.1
  have hg2:=hgi.2.1
  have hsl:=l.size_pos
  have hsr:=r.size_pos
  have hfi2:(if bK k b=0 then l.find k else r.find k)=t.find k:=hfi
  by_cases hkb:bK k b=0
  ·apply wp_skip
   refine hK11 _ _ ?_
   apply wp_block
   refine ak 11 [6,11] [0,1,2,3,4,5,7,8,6,9,10,11] _ af af (Hq.drew hA4.q) ?_
   have hA10:=Hl.drew hA4
   refine pR hF<|pX O O<|pV O O (fun x hx=>yZ (new:=dc k) rfl hx O 0 O vw hdk)<|pX O O<|pX O O<|pW O O (fun _=>yf 66 rfl Uj O QY O)<|pV O O (fun x hx=>bD O (Hq.sub hx (List.Subset.trans hG (aA (bu)))) O hN 66 (by rw [aF hL]; decide) rfl (dA hL _ _ _ _) Bq) fun a hF=>?_
   refine pR hF<|pX O O<|pW O O (fun _=>yf 67 rfl Uj O pF O) fun a hF=>?_
   refine bM O O O (fun K hK=>ax hF O ae GV rfl rfl ?_)
   with_reducible refine (gQ (w0:=w0) (R:=([row b1 25 (dc k)]::R)) (z:=0) hkb hk hb hA10).mono ?_
   rintro e' w11 ⟨rfl,hA12⟩
   refine ⟨_,rfl,fun a hF=>hK _ _ (fun _=>?_) ?_⟩
   ·exact hA12.q
   replace hA12:Hp w0 ([row b1 25 (dc k)]::R) w11:=hA12
   rw [show ((0:Nat):Int)=0 from rfl] at hF
   refine pR hF<|pW O O (fun _=>aP O Um Oo O O 0 O ae (rfl:(⟨_,67+0*1,none⟩:Addr)=⟨_,67,none⟩) (rfl:(none:Option Nat)=none))<|pV O O (fun x hx=>bD O (Hq.sub hx (List.Subset.trans hG (aA (bu)))) O hN 67 (by rw [aF hL]; decide) rfl (eX hL _ _ _ _) Pi) fun a hF=>?_
   refine bY hF O O O O ae _ (bJ O O) (fun h=>absurd h ae) (fun a hF=>?_)
   refine aB ?_
   have hmm:l.size<(Rx.fork b l r).size:=by show _<l.size+r.size; omega
   exact ⟨(l,gl),hmm,hg1,hTl,(by rw [← hfi2,if_pos hkb]),hF.keep [0,3] rfl,hA12⟩
  ·have hkb1:bK k b=1:=by have:=iT k b; omega
   apply wp_skip
   refine hK11 _ _ ?_
   apply wp_block
   refine ak 11 [6,11] [0,1,2,3,4,5,7,8,6,9,10,11] _ af af (Hq.drew hA4.q) ?_
   have hA13:=Hl.drew hA4
   refine pR hF<|pX O O<|pV O O (fun x hx=>yZ (new:=dc k) rfl hx O 0 O vw hdk)<|pX O O<|pX O O<|pW O O (fun _=>yf 66 rfl Uj O QY O)<|pV O O (fun x hx=>bD O (Hq.sub hx (List.Subset.trans hG (aA (bu)))) O hN 66 (by rw [aF hL]; decide) rfl (dA hL _ _ _ _) Bq) fun a hF=>?_
   refine pR hF<|pX O O<|pW O O (fun _=>yf 67 rfl Uj O pF O) fun a hF=>?_
   refine bM O O O (fun K hK=>ax hF O ae GV rfl rfl ?_)
   with_reducible refine (gQ (w0:=w0) (R:=([row b1 25 (dc k)]::R)) (z:=1) hkb1 hk hb hA13).mono ?_
   rintro e' w14 ⟨rfl,hA15⟩
   refine ⟨_,rfl,fun a hF=>hK _ _ (fun _=>?_) ?_⟩
   ·exact hA15.q
   replace hA15:Hp w0 ([row b1 25 (dc k)]::R) w14:=hA15
   rw [show ((1:Nat):Int)=1 from rfl] at hF
   refine pR hF<|pW O O (fun _=>aP O Um Oo O O 1 O ae (rfl:(⟨_,67+1*1,none⟩:Addr)=⟨_,68,none⟩) (rfl:(none:Option Nat)=none))<|pV O O (fun x hx=>bD O (Hq.sub hx (List.Subset.trans hG (aA (bu)))) O hN 68 (by rw [aF hL]; decide) rfl (gI hL _ _ _ _) Pi) fun a hF=>?_
   refine bY hF O O O O ae _ (bJ O O) (fun h=>absurd h ae) (fun a hF=>?_)
   refine aB ?_
   have hmm:r.size<(Rx.fork b l r).size:=by show _<l.size+r.size; omega
   exact ⟨(r,gr),hmm,hg2,hTr2,(by rw [← hfi2,if_neg hkb]),hF.keep [0,3] rfl,hA15⟩
theorem BZ (w0 w:World) (R:List Seg) (k:List UInt8) (hA:Hp w0 R w):Calls Tryz.prog 53 #[.pointer none,.agg (dc k).toArray] w fun e w'=>e= .returned (.pointer none)∧Hp w0 R w':=by
 refine aJ Tryz.func53 O Tryz.ntmps53 ai (fun a hF=>?_)
 refine wp_seq_k fun K1 hK1=>wp_region_lit ?_
 refine au O (fun K hK=>bC (cs:=dc k) hF O ae rfl hA O (fun b1 w2 a hb1 hF hA3=>hK _ _ ?_))
 refine vR hF<|vX O<|vE hK1<|wQ fun K2 hK2=>wBk fun a hF=>?_
 refine bQ (G:=Nat) (fun gh a x=>True∧Fr 36 [(0,.pointer none),(3,.pointer (some ⟨b1,0,none⟩))] a∧Hp w0 ([row b1 25 (dc k)]::R) x) (fun gh=>gh) 0 (⟨trivial,hF.keep [0,3] rfl,hA3⟩) ?_
 clear hF
 rintro gh a w5 ⟨_,hF,hA4⟩
 apply wp_seq_k; intro K3 hK3
 refine wS hF fun K4 hK4=>vX O<|vV O (jF O af rfl rfl)<|vX O<|vS O<|vS O<|vS O<|vS O<|vS O<|vV O (bg O O O)<|vE hK4<|vF1 O fun a hF=>?_
 apply wp_exit
 refine hK2 _ _ ?_
 apply wp_seq_k; intro K5 hK5
 apply wp_seq_k; intro K6 hK6
 refine ak 9 [9] [0,1,2,3,4,5,6,7,8,9] _ af af (Hq.drew hA4.q) ?_
 have hA6:=Hl.drew hA4
 refine pR hF<|pX O O<|pW O O (fun _=>lS O af rfl rfl)<|pX O O<|pS O O<|pS O O<|pS O O<|pS O O<|pS O O<|pS O O fun a hF=>?_
 refine bY hF O O O O ae _ (bg O O O) (fun h=>absurd h ae) (fun a hF=>?_)
 refine aB ?_
 refine hK6 _ _ ?_
 refine eP hF O ?_
 refine wS hF fun K7 hK7=>vX O<|vE hK7 fun a hF=>?_
 apply wp_ret
 simp only [Exit.then]
 refine aO hF Tryz.results53 O ?_
 have hA7:Hp w0 (R) w5.drew:=hpS 1 [] [0] hA6 rfl
 exact ⟨rfl,hA7⟩
end Go.Proofs.YtpomngkcfbnjoaaGreatDoor
