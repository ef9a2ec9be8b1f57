/- The walk of the reference's Sum: SHA-256 in rings. -/
import Derived.Test.YtpomngkcfbnjoaaGreatDoorRefNum
import Derived.Test.YtpomngkcfbnjoaaGreatDoorVc
/- The walk of the reference's Sum: SHA-256 in rings. -/
namespace Go.Proofs.YtpomngkcfbnjoaaGreatDoor
open Go.RowKit Go.Dk
theorem Jp:bV Tryz.prog 132 (.agg (wc (List.replicate 8 0)).toArray):=by unfold bV; kernel_rfl
theorem QL:bV Tryz.prog 133 (.agg (wc (List.replicate 16 0)).toArray):=by unfold bV; kernel_rfl
theorem Rf:(Tryz.prog.info? 132).map (·.size)=some 8:=af
theorem Oc (l:List Nat) (i n:Nat) (h:i<l.length):(wc (l.take i++List.replicate (n+1) 0)).set i (.int .u32 (wAt l i:Nat))=wc (l.take (i+1)++List.replicate n 0):=by
 rw [vU]
 congr 1
 have e:l.take (i+1)=l.take i++[wAt l i]:=by
  rw [List.take_succ_eq_append_getElem h]
  congr 2
  unfold wAt
  rw [List.getElem?_eq_getElem h]; rfl
 rw [List.set_append,if_neg (by rw [List.length_take]; omega),List.length_take,show i-min i l.length=0 by omega,e,List.replicate_succ,List.append_assoc]
 rfl
theorem Gw (i:Nat) (h:i<64):wAt nums i=wAt ks i:=by
 unfold nums wAt
 rw [List.getElem?_append_left (by exact h)]
theorem IK (i:Nat):wAt nums (64+i)=wAt init8 i:=by
 unfold nums wAt
 rw [List.getElem?_append_right (by show 64≤64+i; omega)]
 congr 2
 show 64+i-64=i
 omega
theorem KA (x:Nat) (hx:x<4294967296):bits .xor .u32 (bits .xor .u32 (gp x 7:Nat) (gp x 18:Nat)) ((x:Int)/8)=(Et x:Nat):=by
 rw [show (x:Int)/8=((x/2 ^ 3:Nat):Int) by omega,uY x 7 18 _ hx]; rfl
theorem Kz (x:Nat) (hx:x<4294967296):bits .xor .u32 (bits .xor .u32 (gp x 17:Nat) (gp x 19:Nat)) ((x:Int)/1024)=(Es x:Nat):=by
 rw [show (x:Int)/1024=((x/2 ^ 10:Nat):Int) by omega,uY x 17 19 _ hx]; rfl
theorem Ec (x:Nat) (hx:x<4294967296):bits .xor .u32 (bits .xor .u32 (gp x 6:Nat) (gp x 11:Nat)) (gp x 25:Nat)=(Qu x:Nat):=tq x 6 11 25 hx
theorem Ed (x:Nat) (hx:x<4294967296):bits .xor .u32 (bits .xor .u32 (gp x 2:Nat) (gp x 13:Nat)) (gp x 22:Nat)=(NU x:Nat):=tq x 2 13 22 hx
theorem Gn (e f g:Nat) (he:e<4294967296) (hf:f<4294967296) (hg:g<4294967296):bits .xor .u32 (g:Int) (bits .and .u32 (e:Int) (bits .xor .u32 (f:Int) (g:Int)))=(chN e f g:Nat):=by
 have h1:f ^^^ g<2 ^ 32:=Nat.xor_lt_two_pow (n:=32) hf hg
 rw [u32_xor_nat f g hf hg,u32_and_nat e _ he h1,u32_xor_nat g _ hg (Nat.lt_of_le_of_lt Nat.and_le_left he),Tc e f g hg]
theorem Ce (a b c:Nat) (ha:a<4294967296) (hb:b<4294967296) (hc:c<4294967296):bits .or .u32 (bits .and .u32 (a:Int) (b:Int)) (bits .and .u32 (c:Int) (bits .or .u32 (a:Int) (b:Int)))=(Ff a b c:Nat):=by
 have h1:a ||| b<2 ^ 32:=Nat.or_lt_two_pow (n:=32) ha hb
 rw [u32_and_nat a b ha hb,u32_or_nat a b ha hb,u32_and_nat c _ hc h1,u32_or_nat _ _ (Nat.lt_of_le_of_lt Nat.and_le_left ha) (Nat.lt_of_le_of_lt Nat.and_le_left hc),RQ]
theorem Q3 (s:St) (k w:Nat):(s.step k w).e=add32 s.d (s.x k w):=rfl
theorem step_a (s:St) (k w:Nat):(s.step k w).a=add32 (add32 (s.x k w) (NU s.a)) (Ff s.a s.b s.c):=by
 show add32 (s.x k w) s.y=_
 unfold St.y add32; omega
theorem gq (x:Nat) (m:Int) (n:Nat) (hm:m=n) (hx:x<4294967296) (hn:0<n) (h32:n<32) (w:World) :
  Calls Tryz.prog 74 #[.int .u32 x,.int .i64 m] w fun e w'=>e= .returned (.int .u32 (gp x n:Nat))∧w=w':=by
 subst hm; exact Iw x n hx hn h32 w
theorem Jh (w:World) (A:Option Addr) (l:List UInt8) (c n i whole bt:Nat) (iv wv:Int) (hiv:iv=i) (hwv:wv=whole) (hn:n=l.length) (hB:Bts w A l) (hl:n<281474976710656) (hw:whole=jI n) (hi:i<whole) (hbt:bt=(bAt (padded l) i).toNat) :
  Calls Tryz.prog 73 #[.slice A n c,.int .i64 iv,.int .i64 wv] w fun e w'=>e= .returned (.int .u8 (bt:Int))∧w=w':=by
 subst hiv hwv hbt
 exact FH w A l c n i whole hn hB hl hw hi
theorem Sr (P:List UInt8) (j i:Nat) (h:i<64):bAt ((P.drop (64*j)).take 64) i=bAt P (64*j+i):=by rw [D7 h,D8]
theorem iV (N:Int) (n t:Nat) (hN:N=n) (ht:t<64) (hn:64≤n):(N-t).tmod 8=(((n-t)%8:Nat):Int):=by
 subst hN; rw [Int.tmod_eq_emod_of_nonneg ag]; omega
theorem iU (N:Int) (n t:Nat) (hN:N=n) (ht:t<64) (hn:n<100):IntKind.i64.wrap (N-t)=N-t:=by subst hN; exact TB _ ag
theorem Ag (N:Int) (n t:Nat) (hN:N=n):((t:Int)+N).tmod 16=(((t+n)%16:Nat):Int):=by
 subst hN; rw [Int.tmod_eq_emod_of_nonneg ag]; omega
theorem vC (t:Nat):(t:Int).tmod 16=((t%16:Nat):Int):=by rw [Int.tmod_eq_emod_of_nonneg ag]; omega
theorem Af (N:Int) (n t:Nat) (hN:N=n) (ht:t<64) (hn:n<100):IntKind.i64.wrap ((t:Int)+N)=(t:Int)+N:=by subst hN; exact TB _ ag
theorem jg (t:Nat) (s:St) (n j:Nat) (hn:n=64+j) (ht:t<64) (hj:j<8):(wc (fA t s))[(n-t)%8]? = some (.int .u32 (wAt s.list j:Nat)):=by
 subst hn
 rw [oQ (by rw [iI]; exact Nat.mod_lt _ ae),EL t s j ag hj]
theorem vz (t:Nat) (V:List Nat) (j:Nat) (h16:¬ t<16) (ht:t<64) (hj:j<16):(wc (gz (max t 16) V))[(t+j)%16]? = some (.int .u32 (wAt V (t-16+j):Nat)):=by
 rw [oQ (by rw [lJ]; exact Nat.mod_lt _ ae),show max t 16=t by omega,EJ t V j ag ag hj]
theorem y7 (t:Nat) (V:List Nat) (ht:t<64):(wc (gz (max (t+1) 16) V))[t%16]? = some (.int .u32 (wAt V t:Nat)):=by
 rw [oQ (by rw [lJ]; exact Nat.mod_lt _ ae)]
 by_cases h16:t<16
 ·rw [show max (t+1) 16=16 by omega,Cf t V h16]
 ·rw [show max (t+1) 16=t+1 by omega,Ir t V ag ht]
theorem Ip (t:Nat) (V:List Nat) (h16:¬ t<16) (ht:t<64):(wc (gz (max t 16) V)).set (t%16) (.int .u32 (wAt V t:Nat))=wc (gz (max (t+1) 16) V):=by
 rw [vU,show max t 16=t by omega,show max (t+1) 16=t+1 by omega,Iq t V ag ht _ rfl]
theorem y8 (t:Nat) (s:St) (k w:Nat) (ht:t<64):((wc (fA t s)).set ((67-t)%8) (.int .u32 (add32 s.d (s.x k w):Nat))).set ((71-t)%8) (.int .u32 (add32 (add32 (s.x k w) (NU s.a)) (Ff s.a s.b s.c):Nat))=wc (fA (t+1) (s.step k w)):=by
 rw [vU,vU,Iu t s _ _ k w ht (Q3 s k w).symm (step_a s k w).symm]
theorem JA (B:List UInt8) (i:Nat) (hi:i<64):(wc (jh B i)).set (i/4) (.int .u32 ((wAt (jh B i) (i/4)*256%4294967296 ||| (bAt B i).toNat:Nat):Int))=wc (jh B (i+1)):=by
 rw [vU,He B i _ hi rfl]
theorem KF (p:Nat):IntKind.u32.wrap ((p:Int)*2 ^ min (8:Int).toNat IntKind.u32.bits)=((p*256%4294967296:Nat):Int):=by
 rw [IntKind.wrap_u32',show min (8:Int).toNat IntKind.u32.bits=8 by decide]; omega
theorem O8 (p:Nat) (b:UInt8):bits .or .u32 ((p*256%4294967296:Nat):Int) (b.toNat:Int)=((p*256%4294967296 ||| b.toNat:Nat):Int):=by
 have:=b.toNat_lt
 exact u32_or_nat _ _ (Nat.mod_lt _ ae) ag
theorem MO (i:Nat):IntKind.i64.wrap ((i:Int).tdiv 4)=((i/4:Nat):Int)∨64≤i:=by
 by_cases h:i<64
 ·left
  rw [Int.tdiv_eq_ediv_of_nonneg ag,TB _ ag]; omega
 ·right; omega
theorem AQ (i:Nat) (h:i<64):IntKind.i64.wrap ((i:Int).tdiv 4)=((i/4:Nat):Int):=(MO i).resolve_right ag
theorem MB (i:Nat):(i:Int).tmod 4=((i%4:Nat):Int):=by rw [Int.tmod_eq_emod_of_nonneg ag]; omega
theorem KC (x:Nat):(x:Int).fdiv (2 ^ min (3:Int).toNat IntKind.u32.bits)=(x:Int)/8:=by
 rw [show min (3:Int).toNat IntKind.u32.bits=3 by decide,Int.fdiv_eq_ediv_of_nonneg _ ae]; rfl
theorem H5 (x:Nat):(x:Int).fdiv (2 ^ min (10:Int).toNat IntKind.u32.bits)=(x:Int)/1024:=by
 rw [show min (10:Int).toNat IntKind.u32.bits=10 by decide,Int.fdiv_eq_ediv_of_nonneg _ ae]; rfl
theorem O7 (v m:Nat) (hm:m<4):IntKind.u8.wrap ((v:Int).fdiv (2 ^ min (24-8*(m:Int)).toNat IntKind.u32.bits))=((v/256 ^ (3-m):Nat)%256:Int):=by
 have h1:min (24-8*(m:Int)).toNat IntKind.u32.bits=8*(3-m):=by
  rw [show IntKind.u32.bits=32 from rfl]; omega
 rw [h1,Int.fdiv_eq_ediv_of_nonneg _ (Int.pow_nonneg ae),IntKind.wrap_u8]
 exact zU v (3-m) (8*(3-m)) O
theorem Bi (b:UInt8):IntKind.u32.wrap (b.toNat:Int)=(b.toNat:Int):=by rw [IntKind.wrap_u32']; have:=b.toNat_lt; omega
theorem RJ (st:List Nat) (h:st.length=8) (i:Nat) (hi:i<32):(dc (ob st i)).set i (.int .u8 ((wAt st (i/4)/256 ^ (3-i%4):Nat)%256:Int))=dc (ob st (i+1)):=by
 have h0:=Gv st h (i/4) (i%4) ag ag
 rw [← Nat.add_assoc,show 4*(i/4)+i%4=i by omega] at h0
 exact h0
theorem Ci (V st:List Nat) (h:st.length=8):fA 0 (rounds V (St.of st) 0)=st:=by
 apply nG
 ·rw [iI,h]
 ·intro i hi
  have hi8:i<8:=by omega
  rw [o6 _ _ _ hi8,show (i+0)%8=i by omega]
  have:i=0∨i=1∨i=2∨i=3∨i=4∨i=5∨i=6∨i=7:=by omega
  rcases this with rfl | rfl | rfl | rfl | rfl | rfl | rfl | rfl <;> rfl
theorem EK (S:St):fA 64 S=S.list:=by
 apply nG
 ·rw [iI]; rfl
 ·intro i hi
  have hi8:i<8:=hi
  rw [o6 _ _ _ hi8,show (i+64)%8=i by omega]
theorem jP:bW Tryz.prog 129=true:=af
theorem Tf:isRow Tryz.prog 132 8=true:=af
theorem Tj:aG Tryz.prog 72:=⟨_,Tryz.func72,af,af⟩
theorem Ti:aG Tryz.prog 73:=⟨_,Tryz.func73,af,af⟩
theorem qj:aG Tryz.prog 74:=⟨_,Tryz.func74,af,af⟩
set_option maxRecDepth 100000 in
set_option maxHeartbeats 2000000 in
theorem xh (w:World) (A:Option Addr) (l:List UInt8) (c n:Nat) (hn:n=l.length) (hB:Bts w A l) (hl:n<140737488355328) :
  Calls Tryz.prog 50 #[.slice A n c] w fun e w'=>e= .returned (.agg (dc (sha l)).toArray)∧At w [] w':=by
 obtain ⟨P,hP⟩:∃ P,P=padded l:=⟨_,rfl⟩
 obtain ⟨nb,hnb⟩:∃ k,k=(n+72)/64:=⟨_,rfl⟩
 have hwh:64*nb=jI n:=by rw [hnb]; unfold jI; omega
 have hwb:64*nb≤n+72:=by omega
 obtain ⟨Z0,hZ0⟩:∃ Z,Z=dc (List.replicate 32 0):=⟨_,rfl⟩
 have hZl:Z0.length=32:=by rw [hZ0]; rfl
 have hNl:(wc nums).length=72:=by rw [bU,nums_length]
 have hA0:=At.refl w
 refine aJ Tryz.func50 O Tryz.ntmps50 ai (fun a hF=>?_)
 refine wp_seq_k fun K1 hK1=>wp_region_lit ?_
 refine au O (fun K hK=>fZ hF O ae rfl hA0 jE (fun bd w1 a hbd hF hA1=>hK _ _ ?_))
 replace hA1:At w [(bd,25,Z0)] w1:=by rw [hZ0]; exact hA1
 refine az<|hK1 _ _ ?_
 refine wp_seq_k fun K2 hK2=>wp_region_lit ?_
 refine au O (fun K hK=>ax hF O ae Tj rfl rfl ?_)
 with_reducible refine (CV w1).mono ?_
 rintro e' w2 ⟨rfl,hc2⟩
 refine ⟨_,rfl,fun a hF=>hK _ _ ?_⟩
 have hA2:=hA1.then0 hc2
 clear hc2
 refine au O (fun K hK=>fZ hF O ae rfl hA2 zi (fun bk w3 a hbk hF hA3=>hK _ _ ?_))
 refine au O (fun K hK=>mV hF O O hA3 O O 0 O (by rw [hNl,bU]; decide) (fun v hv=>Eh _ v (by simpa using hv)) (by rw [zk,hNl]) (fun w4 hA4=>hK _ _ ?_))
 replace hA4:At w [(bk,130,wc nums),(bd,25,Z0)] w4:=by rw [← jA (wc (List.replicate 72 0)) (wc nums) (by rw [bU,hNl]; rfl)]; exact hA4
 refine az<|hK2 _ _ ?_
 refine wS hF fun K3 hK3=>vX O<|vV O (aY O TC O O)<|vV O (bH O O O (TB _ ag))<|vV O (mQ O O O ae (show IntKind.i64.wrap ((((n:Int)+72).tdiv 64))=(nb:Int) by rw [Int.tdiv_eq_ediv_of_nonneg ag,TB _ ag]; omega)) fun a hF=>?_
 refine vR hF<|vV O (uw O O O (show IntKind.i64.wrap ((nb:Int)*64)=((64*nb:Nat):Int) by rw [TB _ ag]; omega)) fun a hF=>?_
 refine vR hF<|vX O<|vE hK3 fun a hF=>?_
 refine wp_seq_k fun K4 hK4=>wp_region_lit ?_
 refine au O (fun K hK=>fZ hF O ae rfl hA4 Jp (fun bs w5 a hbs hF hA5=>hK _ _ ?_))
 refine az<|hK4 _ _ ?_
 apply wp_seq_k; intro K5 hK5
 refine wS hF fun K6 hK6=>vX O<|vE hK6<|wBk fun a hF=>?_
 have q0:w.heap.size≤bd:=hbd
 have q1:bd<bk:=by have:=hA2.lt (k:=0) rfl; omega
 have q2:bk<bs:=by have:=hA4.lt (k:=0) rfl; omega
 refine bQ (G:=Nat) (fun i a x=>i≤8∧Fr 242 [(6,.int .i64 (i:Int)),(0,.slice A n c),(2,.pointer (some ⟨bd,0,none⟩)),(3,.pointer (some ⟨bk,0,none⟩)),(4,.int .i64 ((64*nb:Nat):Int)),(5,.pointer (some ⟨bs,0,none⟩))] a∧At w [(bs,132,wc (init8.take i++List.replicate (8-i) 0)),(bk,130,wc nums),(bd,25,Z0)] x) (fun i=>8-i) 0 ⟨Tv _,hF.keep [6,0,2,3,4,5] rfl,hA5⟩ ?_
 clear hF
 rintro i a wr ⟨hi,hF,hAr⟩
 clear hA0 hA1 hA2 hA3 hA4 hA5
 by_cases hlt:i<8
 ·apply wp_seq_k; intro K7 hK7
  refine wS hF fun K8 hK8=>vX O<|vV O (aH O O O O (dB ag))<|vE hK8<|vT1 O<|wKp hK7<|wQ fun K9 hK9=>wBk fun a hF=>?_
  refine wp_region_lit ?_
  refine vR hF<|vX O<|vX O<|vV O (bH O O O (TB _ ag))<|vV O (aP O Ug wK rfl rfl (64+i) ag ag (ad1 _ _) (rfl:(none:Option Nat)=none))<|vV O (df O hAr O 1 O (show (wc nums)[64+i]? = some (.int .u32 (wAt init8 i:Nat)) by rw [oQ (by rw [nums_length]; omega),IK]) jP) fun a hF=>?_
  refine vR hF<|vV O (aP O Uh wK rfl rfl i rfl hlt (ad1 _ _) (rfl:(none:Option Nat)=none)) fun a hF=>?_
  refine au O (fun K hK=>fQ hF O O hAr O O 0 O (by rw [bU,List.length_append,List.length_take,List.length_replicate,sH]; omega) rfl wK (fun w6 hA6=>hK _ _ ?_))
  replace hA6:At w [(bs,132,wc (init8.take (i+1)++List.replicate (8-(i+1)) 0)),(bk,130,wc nums),(bd,25,Z0)] w6:=by
    have h:=Oc init8 i (8-(i+1)) (by rw [sH]; exact hlt)
    rw [show 8-(i+1)+1=8-i by omega] at h
    rw [← h]; exact hA6
  refine az<|hK9 _ _ ?_
  refine wp_region_lit ?_
  refine vR hF<|vX O<|vV O (bH O O O (TB _ ag))<|vX O fun a hF=>?_
  refine az ?_
  exact ⟨i+1,ag,ag,hF.keep [6,0,2,3,4,5] rfl,hA6⟩
 ·obtain rfl:i=8:=by omega
  apply wp_seq_k; intro K10 hK10
  refine wS hF fun K11 hK11=>vX O<|vV O (aH O O O O (dD ag))<|vE hK11<|vF1 O fun a hF=>?_
  replace hAr:At w [(bs,132,wc (blocks 0 init8 P)),(bk,130,wc nums),(bd,25,Z0)] wr:=hAr
  apply wp_exit
  refine hK5 _ _ ?_
  apply wp_seq_k; intro K12 hK12
  refine wS hF fun K13 hK13=>vX O<|vE hK13<|wBk fun a hF=>?_
  refine bQ (G:=Nat) (fun j a x=>j≤nb∧Fr 242 [(7,.int .i64 (64*(j:Int))),(0,.slice A n c),(2,.pointer (some ⟨bd,0,none⟩)),(3,.pointer (some ⟨bk,0,none⟩)),(4,.int .i64 ((64*nb:Nat):Int)),(5,.pointer (some ⟨bs,0,none⟩))] a∧At w [(bs,132,wc (blocks j init8 P)),(bk,130,wc nums),(bd,25,Z0)] x) (fun j=>nb-j) 0 ⟨Tv _,hF.keep [7,0,2,3,4,5] rfl,hAr⟩ ?_
  clear hF
  rintro j a wr ⟨hj,hF,hAr⟩
  clear hi
  by_cases hlt:j<nb
  ·obtain ⟨st,hst⟩:∃ st,st=blocks j init8 P:=⟨_,rfl⟩
   obtain ⟨B,hBk⟩:∃ B,B=(P.drop (64*j)).take 64:=⟨_,rfl⟩
   obtain ⟨V,hV⟩:∃ V,V=sched 48 (words 16 B):=⟨_,rfl⟩
   have hC:compress st B=blocks (j+1) init8 P:=by rw [hst,hBk,qU]
   have hsl:st.length=8:=by rw [hst]; exact bF _ _ _ rfl
   have hslt:∀ x∈st,x<4294967296:=by rw [hst]; exact qh _ _ _ sG
   rw [← hst] at hAr
   apply wp_seq_k; intro K14 hK14
   refine wS hF fun K15 hK15=>vX O<|vX O<|vV O (aH O O O O (dB ag))<|vE hK15<|vT1 O<|wKp hK14<|wQ fun K16 hK16=>wBk fun a hF=>?_
   refine wp_seq_k fun K17 hK17=>wp_region_lit ?_
   refine au O (fun K hK=>fZ hF O ae rfl hAr QL (fun bw w7 a hbw hF hA7=>hK _ _ ?_))
   replace hA7:At w [(bw,133,wc (jh B 0)),(bs,132,wc st),(bk,130,wc nums),(bd,25,Z0)] w7:=by rw [Eg]; exact hA7
   refine az<|hK17 _ _ ?_
   apply wp_seq_k; intro K18 hK18
   refine wS hF fun K19 hK19=>vX O<|vE hK19<|wBk fun a hF=>?_
   have q3:bs<bw:=by have:=hAr.lt (k:=0) rfl; omega
   refine bQ (G:=Nat) (fun i a x=>i≤64∧Fr 242 [(9,.int .i64 (i:Int)),(0,.slice A n c),(2,.pointer (some ⟨bd,0,none⟩)),(3,.pointer (some ⟨bk,0,none⟩)),(4,.int .i64 ((64*nb:Nat):Int)),(5,.pointer (some ⟨bs,0,none⟩)),(7,.int .i64 (64*(j:Int))),(8,.pointer (some ⟨bw,0,none⟩))] a∧At w [(bw,133,wc (jh B i)),(bs,132,wc st),(bk,130,wc nums),(bd,25,Z0)] x) (fun i=>64-i) 0 ⟨Tv _,hF.keep [9,0,2,3,4,5,7,8] rfl,hA7⟩ ?_
   clear hF
   rintro i a wr ⟨hi,hF,hAr⟩
   clear hA7
   by_cases hlt:i<64
   ·have hni:∀ r∈[(bw,133,wc (jh B i)),(bs,132,wc st),(bk,130,wc nums),(bd,25,Z0)],w.heap.size≤(r:Row).1:=by
     intro r hr; simp only [List.mem_cons,List.not_mem_nil,or_false] at hr; rcases hr with h | h | h | h <;> subst h <;> simp only <;> omega
    have hbu:bAt (padded l) (64*j+i)=bAt B i:=by rw [hBk,Sr _ _ _ hlt,hP]
    apply wp_seq_k; intro K20 hK20
    refine wS hF fun K21 hK21=>vX O<|vV O (aH O O O O (dB ag))<|vE hK21<|vT1 O<|wKp hK20<|wQ fun K22 hK22=>wBk fun a hF=>?_
    refine ak 16 [12,16] [0,1,2,3,4,5,6,7,8,9,10,11,12,13,14,15,16] (At w [(bw,133,wc (jh B i)),(bs,132,wc st),(bk,130,wc nums),(bd,25,Z0)]) af af (hAr.drew) ?_
    refine pR hF<|pX O O<|pW O O (fun _=>mQ O O O ae (AQ i hlt))<|pX O O<|pW O O (fun _=>mQ O O O ae (AQ i hlt))<|pW O O (fun _=>aP O Ui wK rfl rfl (i/4) rfl ag (ad1 _ _) (rfl:(none:Option Nat)=none))<|pV O O (fun x hx=>df O hx O 0 O (oQ (l:=jh B i) (i:=i/4) (by rw [jG]; omega)) jP) fun a hF=>?_
    refine pR hF<|pW O O (fun _=>yJ O O O ae (KF _))<|pX O O<|pX O O<|pX O O<|pW O O (fun _=>bH O O O (TB _ ag))<|pX O O fun a hF=>?_
    refine bM O O O (fun K hK=>ax hF O ae Ti rfl rfl ?_)
    with_reducible refine (Jh _ A l c n (64*j+i) (64*nb) _ _ _ ag rfl hn (hB.fresh hAr.drew hni) ag hwh ag rfl).mono ?_
    rintro e' w' ⟨rfl,rfl⟩
    refine ⟨_,rfl,fun a hF=>hK _ _ (fun _=>hAr.drew) ?_⟩
    rw [hbu] at hF
    refine pR hF<|pW O O (fun _=>fP O TA Uc O (Bi _))<|pW O O (fun _=>Ee O O O (O8 _ _))<|pW O O (fun _=>aP O Ui wK rfl rfl (i/4) rfl ag (ad1 _ _) (rfl:(none:Option Nat)=none)) fun a hF=>?_
    refine bM O O O (fun K hK=>fQ hF O O hAr.drew rfl rfl 0 O (by rw [bU,jG]; omega) rfl wK (fun w8 hA8=>hK _ _ (fun h=>absurd h ae) ?_))
    replace hA8:At w [(bw,133,wc (jh B (i+1))),(bs,132,wc st),(bk,130,wc nums),(bd,25,Z0)] w8:=by rw [← JA B i hlt]; exact hA8
    refine aB ?_
    refine hK22 _ _ ?_
    refine wp_region_lit ?_
    refine vR hF<|vX O<|vV O (bH O O O (TB _ ag))<|vX O fun a hF=>?_
    refine az ?_
    exact ⟨i+1,ag,ag,hF.keep [9,0,2,3,4,5,7,8] rfl,hA8⟩
   ·obtain rfl:i=64:=by omega
    replace hAr:At w [(bw,133,wc (gz 16 V)),(bs,132,wc st),(bk,130,wc nums),(bd,25,Z0)] wr:=by rw [hV,zJ,← Hf]; exact hAr
    apply wp_seq_k; intro K23 hK23
    refine wS hF fun K24 hK24=>vX O<|vV O (aH O O O O (dD ag))<|vE hK24<|vF1 O fun a hF=>?_
    apply wp_exit
    refine hK18 _ _ ?_
    refine wS hF fun K25 hK25=>vV O (iR O hAr O 1 O Tf (by rw [bU,hsl]; decide) (by rw [List.drop_zero,TJ (by rw [bU,hsl]; exact TG _)])) fun a hF=>?_
    refine au O (fun K hK=>fZ hF O ae rfl hAr Jp (fun br w9 a hbr hF hA9=>hK _ _ ?_))
    refine au O (fun K hK=>mV hF O O hA9 O O 0 O (by rw [bU,bU,hsl]; decide) (fun v hv=>Eh _ v (by simpa using hv)) (by rw [Rf,bU,hsl]) (fun w10 hA10=>hK _ _ ?_))
    replace hA10:At w [(br,132,wc st),(bw,133,wc (gz 16 V)),(bs,132,wc st),(bk,130,wc nums),(bd,25,Z0)] w10:=by
      have e:=jA (wc (List.replicate 8 0)) (wc st) (by rw [bU,bU,hsl]; rfl)
      rw [List.set_cons_zero,e] at hA10
      exact hA10
    refine az<|hK25 _ _ ?_
    apply wp_seq_k; intro K26 hK26
    refine wS hF fun K27 hK27=>vX O<|vE hK27<|wBk fun a hF=>?_
    have q4:bw<br:=by have:=hAr.lt (k:=0) rfl; omega
    replace hA10:At w [(br,132,wc (fA 0 (rounds V (St.of st) 0))),(bw,133,wc (gz (max 0 16) V)),(bs,132,wc st),(bk,130,wc nums),(bd,25,Z0)] w10:=by rw [Ci V st hsl]; exact hA10
    refine bQ (G:=Nat) (fun t a x=>t≤64∧Fr 242 [(11,.int .i64 (t:Int)),(0,.slice A n c),(2,.pointer (some ⟨bd,0,none⟩)),(3,.pointer (some ⟨bk,0,none⟩)),(4,.int .i64 ((64*nb:Nat):Int)),(5,.pointer (some ⟨bs,0,none⟩)),(7,.int .i64 (64*(j:Int))),(8,.pointer (some ⟨bw,0,none⟩)),(10,.pointer (some ⟨br,0,none⟩))] a∧At w [(br,132,wc (fA t (rounds V (St.of st) t))),(bw,133,wc (gz (max t 16) V)),(bs,132,wc st),(bk,130,wc nums),(bd,25,Z0)] x) (fun t=>64-t) 0 ⟨Tv _,hF.keep [11,0,2,3,4,5,7,8,10] rfl,hA10⟩ ?_
    clear hF
    rintro t a wr ⟨ht,hF,hAr⟩
    clear hA9 hA10 hi
    by_cases hlt:t<64
    ·obtain ⟨S,hS⟩:∃ S,S=rounds V (St.of st) t:=⟨_,rfl⟩
     obtain ⟨ha,hb,hc,hd,he,hf,hg,hh⟩:St.ok S:=by rw [hS]; exact zg _ (QE hslt) t
     have hVlt:∀ k,wAt V k<4294967296:=fun k=>by rw [hV]; exact lW _ (wO _ _ (vT _ _)) k
     have hN:S.step (wAt ks t) (wAt V t)=rounds V (St.of st) (t+1):=by rw [hS]; rfl
     rw [← hS] at hAr
     apply wp_seq_k; intro K28 hK28
     refine wS hF fun K29 hK29=>vX O<|vV O (aH O O O O (dB ag))<|vE hK29<|vT1 O fun a hF=>?_
     by_cases h16:t<16
     ·have hAw:At w [(br,132,wc (fA t S)),(bw,133,wc (gz (max (t+1) 16) V)),(bs,132,wc st),(bk,130,wc nums),(bd,25,Z0)] wr:=by rw [show max (t+1) 16=max t 16 by omega]; exact hAr
      apply wp_skip
      refine hK28 _ _ ?_
      apply wp_seq_k; intro K30 hK30
      apply wp_block
      apply wp_seq_k; intro K31 hK31
      refine wS hF fun K32 hK32=>vX O<|vV O (aH O O O O (zx ag))<|vE hK32<|vF1 O<|wKp hK31<|wT fun K33 hK33=>vX O<|vV O (dm O O O (iU 64 64 t rfl hlt ae))<|vV O (fO O O O ae (iV 64 64 t rfl hlt ae))<|vV O (aP O Uh wK rfl rfl _ O (Nat.mod_lt _ ae) (ad1 _ _) (rfl:(none:Option Nat)=none))<|vV O (df O hAw O 0 O (show (wc (fA t S))[(64-t)%8]? = some (.int .u32 (S.a:Nat)) from jg t S 64 0 O hlt ae) jP) fun a hF=>?_
      refine vR hF<|vX O<|vE hK33<|wT fun K34 hK34=>vX O<|vV O (dm O O O (iU 68 68 t rfl hlt ae))<|vV O (fO O O O ae (iV 68 68 t rfl hlt ae))<|vV O (aP O Uh wK rfl rfl _ O (Nat.mod_lt _ ae) (ad1 _ _) (rfl:(none:Option Nat)=none))<|vV O (df O hAw O 0 O (show (wc (fA t S))[(68-t)%8]? = some (.int .u32 (S.e:Nat)) from jg t S 68 4 O hlt ae) jP) fun a hF=>?_
      refine vR hF<|vX O<|vE hK34<|wT fun K35 hK35=>vX O<|vV O (dm O O O (iU 69 69 t rfl hlt ae))<|vV O (fO O O O ae (iV 69 69 t rfl hlt ae))<|vV O (aP O Uh wK rfl rfl _ O (Nat.mod_lt _ ae) (ad1 _ _) (rfl:(none:Option Nat)=none))<|vV O (df O hAw O 0 O (show (wc (fA t S))[(69-t)%8]? = some (.int .u32 (S.f:Nat)) from jg t S 69 5 O hlt ae) jP) fun a hF=>?_
      refine vR hF<|vX O<|vE hK35<|wT fun K36 hK36=>vX O<|vV O (dm O O O (iU 70 70 t rfl hlt ae))<|vV O (fO O O O ae (iV 70 70 t rfl hlt ae))<|vV O (aP O Uh wK rfl rfl _ O (Nat.mod_lt _ ae) (ad1 _ _) (rfl:(none:Option Nat)=none))<|vV O (df O hAw O 0 O (show (wc (fA t S))[(70-t)%8]? = some (.int .u32 (S.g:Nat)) from jg t S 70 6 O hlt ae) jP) fun a hF=>?_
      refine vR hF<|vX O<|vE hK36<|wT fun K37 hK37=>vX O<|vV O (dm O O O (iU 71 71 t rfl hlt ae))<|vV O (fO O O O ae (iV 71 71 t rfl hlt ae))<|vX O fun a hF=>?_
      refine az ?_
      replace hF:=hF.keep [11,0,2,3,4,5,7,8,10,14,15,16,17,18] rfl
      refine hK37 _ _ ?_
      apply wp_seq_k; intro K38 hK38
      refine ak 29 [4,6,9,29] [0,1,2,3,5,8,12,13,14,15,16,17,18,20,21,22,24,25,26,27,4,6,7,9,10,11,19,23,28,29] (At w [(br,132,wc (fA t S)),(bw,133,wc (gz (max (t+1) 16) V)),(bs,132,wc st),(bk,130,wc nums),(bd,25,Z0)]) af af (hAw.drew) ?_
      refine pR hF<|pX O O<|pW O O (fun _=>aP O Uh wK rfl rfl _ O (Nat.mod_lt _ ae) (ad1 _ _) (rfl:(none:Option Nat)=none))<|pV O O (fun x hx=>df O hx O 0 O (show (wc (fA t S))[(71-t)%8]? = some (.int .u32 (S.h:Nat)) from jg t S 71 7 O hlt ae) jP) fun a hF=>?_
      refine pR hF<|pX O O<|pX O O<|pX O O<|pX O O<|pX O O<|pX O O<|pX O O<|pW O O (fun _=>kR O O O O)<|pW O O (fun _=>uy O O O O)<|pW O O (fun _=>kR O O O (Gn _ _ _ he hf hg))<|pX O O<|pW O O (fun _=>aP O Ug wK rfl rfl t rfl ag (ad1 _ _) (rfl:(none:Option Nat)=none))<|pV O O (fun x hx=>df O hx O 3 O (show (wc nums)[t]? = some (.int .u32 (wAt ks t:Nat)) by rw [oQ (by rw [nums_length]; omega),Gw t hlt]) jP) fun a hF=>?_
      refine pR hF<|pX O O<|pW O O (fun _=>fO O O O ae (vC t))<|pW O O (fun _=>aP O Ui wK rfl rfl _ O (Nat.mod_lt _ ae) (ad1 _ _) (rfl:(none:Option Nat)=none))<|pV O O (fun x hx=>df O hx O 1 O (y7 t V hlt) jP) fun a hF=>?_
      refine bM O O O (fun K hK=>ax hF O ae qj rfl rfl ?_)
      with_reducible refine (gq _ 6 6 O he ae ae _).mono ?_
      rintro e' w' ⟨rfl,rfl⟩
      refine ⟨_,rfl,fun a hF=>hK _ _ (fun _=>hAw.drew) ?_⟩
      refine bM O O O (fun K hK=>ax hF O ae qj rfl rfl ?_)
      with_reducible refine (gq _ 11 11 rfl he ae ae _).mono ?_
      rintro e' w' ⟨rfl,rfl⟩
      refine ⟨_,rfl,fun a hF=>hK _ _ (fun _=>hAw.drew) ?_⟩
      refine pR hF<|pW O O (fun _=>kR O O O O) fun a hF=>?_
      refine bM O O O (fun K hK=>ax hF O ae qj rfl rfl ?_)
      with_reducible refine (gq _ 25 25 rfl he ae ae _).mono ?_
      rintro e' w' ⟨rfl,rfl⟩
      refine ⟨_,rfl,fun a hF=>hK _ _ (fun _=>hAw.drew) ?_⟩
      refine pR hF<|pW O O (fun _=>kR O O O (Ec _ he))<|pW O O (fun _=>bH O O O (fM _ _))<|pW O O (fun _=>bH O O O (fM _ _))<|pW O O (fun _=>bH O O O (fM _ _))<|pW O O (fun _=>bH O O O (fM _ _)) fun a hF=>?_
      refine bY hF O O O O ae _ (bJ O O) (fun h=>absurd h ae) (fun a hF=>?_)
      refine aB ?_
      have hA11:=hAw.drew
      refine hK38 _ _ ?_
      refine wS hF fun K39 hK39=>vX O<|vV O (dm O O O (iU 65 65 t rfl hlt ae))<|vV O (fO O O O ae (iV 65 65 t rfl hlt ae))<|vV O (aP O Uh wK rfl rfl _ O (Nat.mod_lt _ ae) (ad1 _ _) (rfl:(none:Option Nat)=none))<|vV O (df O hA11 O 0 O (show (wc (fA t S))[(65-t)%8]? = some (.int .u32 (S.b:Nat)) from jg t S 65 1 O hlt ae) jP) fun a hF=>?_
      refine vR hF<|vX O<|vE hK39<|wT fun K40 hK40=>vX O<|vV O (dm O O O (iU 66 66 t rfl hlt ae))<|vV O (fO O O O ae (iV 66 66 t rfl hlt ae))<|vV O (aP O Uh wK rfl rfl _ O (Nat.mod_lt _ ae) (ad1 _ _) (rfl:(none:Option Nat)=none))<|vV O (df O hA11 O 0 O (show (wc (fA t S))[(66-t)%8]? = some (.int .u32 (S.c:Nat)) from jg t S 66 2 O hlt ae) jP) fun a hF=>?_
      refine vR hF<|vX O<|vE hK40<|wT fun K41 hK41=>vX O<|vV O (dm O O O (iU 67 67 t rfl hlt ae))<|vV O (fO O O O ae (iV 67 67 t rfl hlt ae))<|vX O<|vV O (dm O O O (iU 67 67 t rfl hlt ae))<|vV O (fO O O O ae (iV 67 67 t rfl hlt ae))<|vV O (aP O Uh wK rfl rfl _ O (Nat.mod_lt _ ae) (ad1 _ _) (rfl:(none:Option Nat)=none))<|vV O (df O hA11 O 0 O (show (wc (fA t S))[(67-t)%8]? = some (.int .u32 (S.d:Nat)) from jg t S 67 3 O hlt ae) jP) fun a hF=>?_
      refine vR hF<|vX O<|vV O (bH O O O (fM _ _))<|vV O (aP O Uh wK rfl rfl _ O (Nat.mod_lt _ ae) (ad1 _ _) (rfl:(none:Option Nat)=none)) fun a hF=>?_
      refine au O (fun K hK=>fQ hF O O hA11 O O 0 O (by rw [bU,iI]; exact Nat.mod_lt _ ae) rfl wK (fun w12 hA12=>hK _ _ ?_))
      refine az<|hK41 _ _ ?_
      refine wp_region_lit ?_
      refine vR hF<|vX O<|vX O<|vX O fun a hF=>?_
      refine au O (fun K hK=>ax hF O ae qj rfl rfl ?_)
      with_reducible refine (gq _ 2 2 O ha ae ae _).mono ?_
      rintro e' w' ⟨rfl,rfl⟩
      refine ⟨_,rfl,fun a hF=>hK _ _ ?_⟩
      refine vR hF<|vX O fun a hF=>?_
      refine au O (fun K hK=>ax hF O ae qj rfl rfl ?_)
      with_reducible refine (gq _ 13 13 rfl ha ae ae _).mono ?_
      rintro e' w' ⟨rfl,rfl⟩
      refine ⟨_,rfl,fun a hF=>hK _ _ ?_⟩
      refine vR hF<|vV O (kR O O O O)<|vX O fun a hF=>?_
      refine au O (fun K hK=>ax hF O ae qj rfl rfl ?_)
      with_reducible refine (gq _ 22 22 rfl ha ae ae _).mono ?_
      rintro e' w' ⟨rfl,rfl⟩
      refine ⟨_,rfl,fun a hF=>hK _ _ ?_⟩
      refine vR hF<|vV O (kR O O O (Ed _ ha))<|vV O (bH O O O (fM _ _))<|vX O<|vX O<|vV O (uy O O O O)<|vX O<|vX O<|vX O<|vV O (Ee O O O O)<|vV O (uy O O O O)<|vV O (Ee O O O (Ce _ _ _ ha hb hc))<|vV O (bH O O O (fM _ _))<|vV O (aP O Uh wK rfl rfl _ O (Nat.mod_lt _ ae) (ad1 _ _) (rfl:(none:Option Nat)=none)) fun a hF=>?_
      refine au O (fun K hK=>fQ hF O O hA12 O O 0 O (by rw [List.length_set,bU,iI]; exact Nat.mod_lt _ ae) rfl wK (fun w13 hA13=>hK _ _ ?_))
      replace hA13:At w [(br,132,wc (fA (t+1) (rounds V (St.of st) (t+1)))),(bw,133,wc (gz (max (t+1) 16) V)),(bs,132,wc st),(bk,130,wc nums),(bd,25,Z0)] w13:=by rw [← hN,← y8 t S _ _ hlt]; exact hA13
      refine az<|hK30 _ _ ?_
      refine wp_region_lit ?_
      refine vR hF<|vX O<|vV O (bH O O O (TB _ ag))<|vX O fun a hF=>?_
      refine az ?_
      exact ⟨t+1,ag,ag,hF.keep [11,0,2,3,4,5,7,8,10] rfl,hA13⟩
     ·have hx15:=hVlt (t-16+1)
      have hx2:=hVlt (t-16+14)
      have hvt:((add32 (add32 (add32 (wAt V (t-16+0)) (Et (wAt V (t-16+1)))) (wAt V (t-16+9))) (Es (wAt V (t-16+14))):Nat):Int)=(wAt V t:Nat):=by
       rw [hV,Ew B t ag hlt,show t-16+0=t-16 by omega,show t-16+1=t-15 by omega,show t-16+9=t-7 by omega,show t-16+14=t-2 by omega]
      apply wp_skip
      refine hK28 _ _ ?_
      apply wp_seq_k; intro K42 hK42
      apply wp_block
      apply wp_seq_k; intro K43 hK43
      refine wS hF fun K44 hK44=>vX O<|vV O (aH O O O O (xN ag))<|vE hK44<|vT1 O<|wT fun K45 hK45=>vX O<|vV O (bH O O O (Af 1 1 t rfl hlt ae))<|vV O (fO O O O ae (Ag 1 1 t rfl))<|vV O (aP O Ui wK rfl rfl _ O (Nat.mod_lt _ ae) (ad1 _ _) (rfl:(none:Option Nat)=none))<|vV O (df O hAr O 1 O (vz t V 1 h16 hlt ae) jP)<|vX O<|vE hK45<|wT fun K46 hK46=>vX O<|vV O (bH O O O (Af 14 14 t rfl hlt ae))<|vV O (fO O O O ae (Ag 14 14 t rfl))<|vV O (aP O Ui wK rfl rfl _ O (Nat.mod_lt _ ae) (ad1 _ _) (rfl:(none:Option Nat)=none))<|vV O (df O hAr O 1 O (vz t V 14 h16 hlt ae) jP)<|vX O<|vE hK46<|wT fun K47 hK47=>vX O fun a hF=>?_
      refine au O (fun K hK=>ax hF O ae qj rfl rfl ?_)
      with_reducible refine (gq _ 7 7 O hx15 ae ae _).mono ?_
      rintro e' w' ⟨rfl,rfl⟩
      refine ⟨_,rfl,fun a hF=>hK _ _ ?_⟩
      refine vR hF<|vX O fun a hF=>?_
      refine au O (fun K hK=>ax hF O ae qj rfl rfl ?_)
      with_reducible refine (gq _ 18 18 rfl hx15 ae ae _).mono ?_
      rintro e' w' ⟨rfl,rfl⟩
      refine ⟨_,rfl,fun a hF=>hK _ _ ?_⟩
      refine vR hF<|vV O (kR O O O O)<|vX O<|vV O (mP O O O ae (KC _))<|vV O (kR O O O (KA _ hx15))<|vX O<|vE hK47<|wT fun K48 hK48=>vX O fun a hF=>?_
      refine au O (fun K hK=>ax hF O ae qj rfl rfl ?_)
      with_reducible refine (gq _ 17 17 rfl hx2 ae ae _).mono ?_
      rintro e' w' ⟨rfl,rfl⟩
      refine ⟨_,rfl,fun a hF=>hK _ _ ?_⟩
      refine vR hF<|vX O fun a hF=>?_
      refine au O (fun K hK=>ax hF O ae qj rfl rfl ?_)
      with_reducible refine (gq _ 19 19 rfl hx2 ae ae _).mono ?_
      rintro e' w' ⟨rfl,rfl⟩
      refine ⟨_,rfl,fun a hF=>hK _ _ ?_⟩
      refine vR hF<|vV O (kR O O O O)<|vX O<|vV O (mP O O O ae (H5 _))<|vV O (kR O O O (Kz _ hx2))<|vX O<|vE hK48 fun a hF=>?_
      refine ak 17 [17] [0,1,2,3,4,5,6,7,8,9,10,11,12,13,14,15,16,17] (At w [(br,132,wc (fA t S)),(bw,133,wc (gz (max t 16) V)),(bs,132,wc st),(bk,130,wc nums),(bd,25,Z0)]) af af (hAr.drew) ?_
      refine pR hF<|pX O O<|pW O O (fun _=>fO O O O ae (vC t))<|pX O O<|pW O O (fun _=>fO O O O ae (vC t))<|pW O O (fun _=>aP O Ui wK rfl rfl _ O (Nat.mod_lt _ ae) (ad1 _ _) (rfl:(none:Option Nat)=none))<|pV O O (fun x hx=>df O hx O 1 O (show (wc (gz (max t 16) V))[t%16]? = _ from vz t V 0 h16 hlt ae) jP) fun a hF=>?_
      refine pR hF<|pX O O<|pW O O (fun _=>bH O O O (fM _ _))<|pX O O<|pW O O (fun _=>bH O O O (Af 9 9 t rfl hlt ae))<|pW O O (fun _=>fO O O O ae (Ag 9 9 t rfl))<|pW O O (fun _=>aP O Ui wK rfl rfl _ O (Nat.mod_lt _ ae) (ad1 _ _) (rfl:(none:Option Nat)=none))<|pV O O (fun x hx=>df O hx O 1 O (vz t V 9 h16 hlt ae) jP)<|pW O O (fun _=>bH O O O (fM _ _))<|pX O O<|pW O O (fun _=>bH O O O ((fM _ _).trans hvt))<|pW O O (fun _=>aP O Ui wK rfl rfl _ O (Nat.mod_lt _ ae) (ad1 _ _) (rfl:(none:Option Nat)=none)) fun a hF=>?_
      refine bM O O O (fun K hK=>fQ hF O O hAr.drew rfl rfl 1 O (by rw [bU,lJ]; exact Nat.mod_lt _ ae) rfl wK (fun w11 hAw=>hK _ _ (fun h=>absurd h ae) ?_))
      replace hAw:At w [(br,132,wc (fA t S)),(bw,133,wc (gz (max (t+1) 16) V)),(bs,132,wc st),(bk,130,wc nums),(bd,25,Z0)] w11:=by rw [← Ip t V h16 hlt]; exact hAw
      refine aB ?_
      replace hF:=hF.keep [11,0,2,3,4,5,7,8,10] rfl
      refine hK43 _ _ ?_
      refine wS hF fun K49 hK49=>vX O<|vV O (dm O O O (iU 64 64 t rfl hlt ae))<|vV O (fO O O O ae (iV 64 64 t rfl hlt ae))<|vV O (aP O Uh wK rfl rfl _ O (Nat.mod_lt _ ae) (ad1 _ _) (rfl:(none:Option Nat)=none))<|vV O (df O hAw O 0 O (show (wc (fA t S))[(64-t)%8]? = some (.int .u32 (S.a:Nat)) from jg t S 64 0 O hlt ae) jP) fun a hF=>?_
      refine vR hF<|vX O<|vE hK49<|wT fun K50 hK50=>vX O<|vV O (dm O O O (iU 68 68 t rfl hlt ae))<|vV O (fO O O O ae (iV 68 68 t rfl hlt ae))<|vV O (aP O Uh wK rfl rfl _ O (Nat.mod_lt _ ae) (ad1 _ _) (rfl:(none:Option Nat)=none))<|vV O (df O hAw O 0 O (show (wc (fA t S))[(68-t)%8]? = some (.int .u32 (S.e:Nat)) from jg t S 68 4 O hlt ae) jP) fun a hF=>?_
      refine vR hF<|vX O<|vE hK50<|wT fun K51 hK51=>vX O<|vV O (dm O O O (iU 69 69 t rfl hlt ae))<|vV O (fO O O O ae (iV 69 69 t rfl hlt ae))<|vV O (aP O Uh wK rfl rfl _ O (Nat.mod_lt _ ae) (ad1 _ _) (rfl:(none:Option Nat)=none))<|vV O (df O hAw O 0 O (show (wc (fA t S))[(69-t)%8]? = some (.int .u32 (S.f:Nat)) from jg t S 69 5 O hlt ae) jP) fun a hF=>?_
      refine vR hF<|vX O<|vE hK51<|wT fun K52 hK52=>vX O<|vV O (dm O O O (iU 70 70 t rfl hlt ae))<|vV O (fO O O O ae (iV 70 70 t rfl hlt ae))<|vV O (aP O Uh wK rfl rfl _ O (Nat.mod_lt _ ae) (ad1 _ _) (rfl:(none:Option Nat)=none))<|vV O (df O hAw O 0 O (show (wc (fA t S))[(70-t)%8]? = some (.int .u32 (S.g:Nat)) from jg t S 70 6 O hlt ae) jP) fun a hF=>?_
      refine vR hF<|vX O<|vE hK52<|wT fun K53 hK53=>vX O<|vV O (dm O O O (iU 71 71 t rfl hlt ae))<|vV O (fO O O O ae (iV 71 71 t rfl hlt ae))<|vX O fun a hF=>?_
      refine az ?_
      replace hF:=hF.keep [11,0,2,3,4,5,7,8,10,14,15,16,17,18] rfl
      refine hK53 _ _ ?_
      apply wp_seq_k; intro K54 hK54
      refine ak 29 [4,6,9,29] [0,1,2,3,5,8,12,13,14,15,16,17,18,20,21,22,24,25,26,27,4,6,7,9,10,11,19,23,28,29] (At w [(br,132,wc (fA t S)),(bw,133,wc (gz (max (t+1) 16) V)),(bs,132,wc st),(bk,130,wc nums),(bd,25,Z0)]) af af (hAw.drew) ?_
      refine pR hF<|pX O O<|pW O O (fun _=>aP O Uh wK rfl rfl _ O (Nat.mod_lt _ ae) (ad1 _ _) (rfl:(none:Option Nat)=none))<|pV O O (fun x hx=>df O hx O 0 O (show (wc (fA t S))[(71-t)%8]? = some (.int .u32 (S.h:Nat)) from jg t S 71 7 O hlt ae) jP) fun a hF=>?_
      refine pR hF<|pX O O<|pX O O<|pX O O<|pX O O<|pX O O<|pX O O<|pX O O<|pW O O (fun _=>kR O O O O)<|pW O O (fun _=>uy O O O O)<|pW O O (fun _=>kR O O O (Gn _ _ _ he hf hg))<|pX O O<|pW O O (fun _=>aP O Ug wK rfl rfl t rfl ag (ad1 _ _) (rfl:(none:Option Nat)=none))<|pV O O (fun x hx=>df O hx O 3 O (show (wc nums)[t]? = some (.int .u32 (wAt ks t:Nat)) by rw [oQ (by rw [nums_length]; omega),Gw t hlt]) jP) fun a hF=>?_
      refine pR hF<|pX O O<|pW O O (fun _=>fO O O O ae (vC t))<|pW O O (fun _=>aP O Ui wK rfl rfl _ O (Nat.mod_lt _ ae) (ad1 _ _) (rfl:(none:Option Nat)=none))<|pV O O (fun x hx=>df O hx O 1 O (y7 t V hlt) jP) fun a hF=>?_
      refine bM O O O (fun K hK=>ax hF O ae qj rfl rfl ?_)
      with_reducible refine (gq _ 6 6 O he ae ae _).mono ?_
      rintro e' w' ⟨rfl,rfl⟩
      refine ⟨_,rfl,fun a hF=>hK _ _ (fun _=>hAw.drew) ?_⟩
      refine bM O O O (fun K hK=>ax hF O ae qj rfl rfl ?_)
      with_reducible refine (gq _ 11 11 rfl he ae ae _).mono ?_
      rintro e' w' ⟨rfl,rfl⟩
      refine ⟨_,rfl,fun a hF=>hK _ _ (fun _=>hAw.drew) ?_⟩
      refine pR hF<|pW O O (fun _=>kR O O O O) fun a hF=>?_
      refine bM O O O (fun K hK=>ax hF O ae qj rfl rfl ?_)
      with_reducible refine (gq _ 25 25 rfl he ae ae _).mono ?_
      rintro e' w' ⟨rfl,rfl⟩
      refine ⟨_,rfl,fun a hF=>hK _ _ (fun _=>hAw.drew) ?_⟩
      refine pR hF<|pW O O (fun _=>kR O O O (Ec _ he))<|pW O O (fun _=>bH O O O (fM _ _))<|pW O O (fun _=>bH O O O (fM _ _))<|pW O O (fun _=>bH O O O (fM _ _))<|pW O O (fun _=>bH O O O (fM _ _)) fun a hF=>?_
      refine bY hF O O O O ae _ (bJ O O) (fun h=>absurd h ae) (fun a hF=>?_)
      refine aB ?_
      have hA11:=hAw.drew
      refine hK54 _ _ ?_
      refine wS hF fun K55 hK55=>vX O<|vV O (dm O O O (iU 65 65 t rfl hlt ae))<|vV O (fO O O O ae (iV 65 65 t rfl hlt ae))<|vV O (aP O Uh wK rfl rfl _ O (Nat.mod_lt _ ae) (ad1 _ _) (rfl:(none:Option Nat)=none))<|vV O (df O hA11 O 0 O (show (wc (fA t S))[(65-t)%8]? = some (.int .u32 (S.b:Nat)) from jg t S 65 1 O hlt ae) jP) fun a hF=>?_
      refine vR hF<|vX O<|vE hK55<|wT fun K56 hK56=>vX O<|vV O (dm O O O (iU 66 66 t rfl hlt ae))<|vV O (fO O O O ae (iV 66 66 t rfl hlt ae))<|vV O (aP O Uh wK rfl rfl _ O (Nat.mod_lt _ ae) (ad1 _ _) (rfl:(none:Option Nat)=none))<|vV O (df O hA11 O 0 O (show (wc (fA t S))[(66-t)%8]? = some (.int .u32 (S.c:Nat)) from jg t S 66 2 O hlt ae) jP) fun a hF=>?_
      refine vR hF<|vX O<|vE hK56<|wT fun K57 hK57=>vX O<|vV O (dm O O O (iU 67 67 t rfl hlt ae))<|vV O (fO O O O ae (iV 67 67 t rfl hlt ae))<|vX O<|vV O (dm O O O (iU 67 67 t rfl hlt ae))<|vV O (fO O O O ae (iV 67 67 t rfl hlt ae))<|vV O (aP O Uh wK rfl rfl _ O (Nat.mod_lt _ ae) (ad1 _ _) (rfl:(none:Option Nat)=none))<|vV O (df O hA11 O 0 O (show (wc (fA t S))[(67-t)%8]? = some (.int .u32 (S.d:Nat)) from jg t S 67 3 O hlt ae) jP) fun a hF=>?_
      refine vR hF<|vX O<|vV O (bH O O O (fM _ _))<|vV O (aP O Uh wK rfl rfl _ O (Nat.mod_lt _ ae) (ad1 _ _) (rfl:(none:Option Nat)=none)) fun a hF=>?_
      refine au O (fun K hK=>fQ hF O O hA11 O O 0 O (by rw [bU,iI]; exact Nat.mod_lt _ ae) rfl wK (fun w12 hA12=>hK _ _ ?_))
      refine az<|hK57 _ _ ?_
      refine wp_region_lit ?_
      refine vR hF<|vX O<|vX O<|vX O fun a hF=>?_
      refine au O (fun K hK=>ax hF O ae qj rfl rfl ?_)
      with_reducible refine (gq _ 2 2 O ha ae ae _).mono ?_
      rintro e' w' ⟨rfl,rfl⟩
      refine ⟨_,rfl,fun a hF=>hK _ _ ?_⟩
      refine vR hF<|vX O fun a hF=>?_
      refine au O (fun K hK=>ax hF O ae qj rfl rfl ?_)
      with_reducible refine (gq _ 13 13 rfl ha ae ae _).mono ?_
      rintro e' w' ⟨rfl,rfl⟩
      refine ⟨_,rfl,fun a hF=>hK _ _ ?_⟩
      refine vR hF<|vV O (kR O O O O)<|vX O fun a hF=>?_
      refine au O (fun K hK=>ax hF O ae qj rfl rfl ?_)
      with_reducible refine (gq _ 22 22 rfl ha ae ae _).mono ?_
      rintro e' w' ⟨rfl,rfl⟩
      refine ⟨_,rfl,fun a hF=>hK _ _ ?_⟩
      refine vR hF<|vV O (kR O O O (Ed _ ha))<|vV O (bH O O O (fM _ _))<|vX O<|vX O<|vV O (uy O O O O)<|vX O<|vX O<|vX O<|vV O (Ee O O O O)<|vV O (uy O O O O)<|vV O (Ee O O O (Ce _ _ _ ha hb hc))<|vV O (bH O O O (fM _ _))<|vV O (aP O Uh wK rfl rfl _ O (Nat.mod_lt _ ae) (ad1 _ _) (rfl:(none:Option Nat)=none)) fun a hF=>?_
      refine au O (fun K hK=>fQ hF O O hA12 O O 0 O (by rw [List.length_set,bU,iI]; exact Nat.mod_lt _ ae) rfl wK (fun w13 hA13=>hK _ _ ?_))
      replace hA13:At w [(br,132,wc (fA (t+1) (rounds V (St.of st) (t+1)))),(bw,133,wc (gz (max (t+1) 16) V)),(bs,132,wc st),(bk,130,wc nums),(bd,25,Z0)] w13:=by rw [← hN,← y8 t S _ _ hlt]; exact hA13
      refine az<|hK42 _ _ ?_
      refine wp_region_lit ?_
      refine vR hF<|vX O<|vV O (bH O O O (TB _ ag))<|vX O fun a hF=>?_
      refine az ?_
      exact ⟨t+1,ag,ag,hF.keep [11,0,2,3,4,5,7,8,10] rfl,hA13⟩
    ·obtain rfl:t=64:=by omega
     obtain ⟨R,hR⟩:∃ R,R=(rounds V (St.of st) 64).list:=⟨_,rfl⟩
     have hRl:R.length=8:=by rw [hR]; rfl
     obtain ⟨W,hW⟩:∃ W,W=gz (max 64 16) V:=⟨_,rfl⟩
     have hCe:cur st R 8=blocks (j+1) init8 P:=by rw [GU,← hC,hR,hV]; rfl
     replace hAr:At w [(br,132,wc R),(bw,133,wc W),(bs,132,wc (cur st R 0)),(bk,130,wc nums),(bd,25,Z0)] wr:=by rw [Dz st R hsl,hR,hW,← EK]; exact hAr
     apply wp_seq_k; intro K58 hK58
     refine wS hF fun K59 hK59=>vX O<|vV O (aH O O O O (dD ag))<|vE hK59<|vF1 O fun a hF=>?_
     apply wp_exit
     refine hK26 _ _ ?_
     refine wS hF fun K60 hK60=>vX O<|vE hK60<|wBk fun a hF=>?_
     refine bQ (G:=Nat) (fun k a x=>k≤8∧Fr 242 [(22,.int .i64 (k:Int)),(0,.slice A n c),(2,.pointer (some ⟨bd,0,none⟩)),(3,.pointer (some ⟨bk,0,none⟩)),(4,.int .i64 ((64*nb:Nat):Int)),(5,.pointer (some ⟨bs,0,none⟩)),(7,.int .i64 (64*(j:Int))),(10,.pointer (some ⟨br,0,none⟩))] a∧At w [(br,132,wc R),(bw,133,wc W),(bs,132,wc (cur st R k)),(bk,130,wc nums),(bd,25,Z0)] x) (fun k=>8-k) 0 ⟨Tv _,hF.keep [22,0,2,3,4,5,7,10] rfl,hAr⟩ ?_
     clear hF
     rintro k a wr ⟨hk,hF,hAr⟩
     clear ht
     by_cases hlt:k<8
     ·apply wp_seq_k; intro K61 hK61
      refine wS hF fun K62 hK62=>vX O<|vV O (aH O O O O (dB ag))<|vE hK62<|vT1 O<|wKp hK61<|wQ fun K63 hK63=>wBk fun a hF=>?_
      refine ak 9 [9] [0,1,2,3,4,5,6,7,8,9] (At w [(br,132,wc R),(bw,133,wc W),(bs,132,wc (cur st R k)),(bk,130,wc nums),(bd,25,Z0)]) af af (hAr.drew) ?_
      refine pR hF<|pX O O<|pX O O<|pW O O (fun _=>aP O Uh wK rfl rfl k rfl hlt (ad1 _ _) (rfl:(none:Option Nat)=none))<|pV O O (fun x hx=>df O hx O 2 O (MR st R k hlt) jP)<|pX O O<|pW O O (fun _=>aP O Uh wK rfl rfl k rfl hlt (ad1 _ _) (rfl:(none:Option Nat)=none))<|pV O O (fun x hx=>df O hx O 0 O (oQ (by rw [hRl]; exact hlt)) jP) fun a hF=>?_
      refine pR hF<|pW O O (fun _=>bH O O O (fM _ _))<|pW O O (fun _=>aP O Uh wK rfl rfl k rfl hlt (ad1 _ _) (rfl:(none:Option Nat)=none)) fun a hF=>?_
      refine bM O O O (fun K hK=>fQ hF O O hAr.drew rfl rfl 2 O (by rw [bU,kK]; exact hlt) rfl wK (fun w14 hA14=>hK _ _ (fun h=>absurd h ae) ?_))
      replace hA14:At w [(br,132,wc R),(bw,133,wc W),(bs,132,wc (cur st R (k+1))),(bk,130,wc nums),(bd,25,Z0)] w14:=by rw [← DC st R k hlt]; exact hA14
      refine aB ?_
      refine hK63 _ _ ?_
      refine wp_region_lit ?_
      refine vR hF<|vX O<|vV O (bH O O O (TB _ ag))<|vX O fun a hF=>?_
      refine az ?_
      exact ⟨k+1,ag,ag,hF.keep [22,0,2,3,4,5,7,10] rfl,hA14⟩
     ·obtain rfl:k=8:=by omega
      rw [hCe] at hAr
      have hA15:At w [(bs,132,wc (blocks (j+1) init8 P)),(bk,130,wc nums),(bd,25,Z0)] wr:=hAr.drop (List.Sublist.cons _ (List.Sublist.cons _ (List.Sublist.refl _))) (fun r hr hlt'=>by
       simp only [List.mem_cons,List.not_mem_nil,or_false] at hr ⊢
       rcases hr with rfl | rfl | rfl | rfl | rfl
       ·simp only at hlt'; omega
       ·simp only at hlt'; omega
       ·exact .inl rfl
       ·exact .inr (.inl rfl)
       ·exact .inr (.inr rfl))
      apply wp_seq_k; intro K64 hK64
      refine wS hF fun K65 hK65=>vX O<|vV O (aH O O O O (dD ag))<|vE hK65<|vF1 O fun a hF=>?_
      apply wp_exit
      refine hK16 _ _ ?_
      refine wp_region_lit ?_
      refine vR hF<|vX O<|vV O (bH O O O (show IntKind.i64.wrap (64*(j:Int)+64)=64*((j+1:Nat):Int) by rw [TB _ ag]; omega)) fun a hF=>?_
      refine vR hF<|vX O fun a hF=>?_
      refine az ?_
      exact ⟨j+1,ag,ag,hF.keep [7,0,2,3,4,5] rfl,hA15⟩
  ·obtain rfl:nb=j:=by omega
   obtain ⟨st,hst⟩:∃ st,st=blocks nb init8 P:=⟨_,rfl⟩
   have hsl:st.length=8:=by rw [hst]; exact bF _ _ _ rfl
   have hSha:ob st 32=sha l:=by rw [show (32:Nat)=4*8 from rfl,L6 st hsl,Eu,hst,hP,← hn,← hwh,Nat.mul_div_cancel_left _ ae]
   rw [← hst] at hAr
   apply wp_seq_k; intro K66 hK66
   refine wS hF fun K67 hK67=>vX O<|vX O<|vV O (aH O O O O (dD ag))<|vE hK67<|vF1 O fun a hF=>?_
   apply wp_exit
   refine hK12 _ _ ?_
   refine wp_seq_k fun K68 hK68=>wp_region_lit ?_
   refine au O (fun K hK=>fZ hF O ae rfl hAr jE (fun bo w16 a hbo hF hA16=>hK _ _ ?_))
   refine az<|hK68 _ _ ?_
   apply wp_seq_k; intro K69 hK69
   refine wS hF fun K70 hK70=>vX O<|vE hK70<|wBk fun a hF=>?_
   have q5:bs<bo:=by have:=hAr.lt (k:=0) rfl; omega
   refine bQ (G:=Nat) (fun i a x=>i≤32∧Fr 242 [(24,.int .i64 (i:Int)),(0,.slice A n c),(2,.pointer (some ⟨bd,0,none⟩)),(3,.pointer (some ⟨bk,0,none⟩)),(4,.int .i64 ((64*nb:Nat):Int)),(5,.pointer (some ⟨bs,0,none⟩)),(23,.pointer (some ⟨bo,0,none⟩))] a∧At w [(bo,25,dc (ob st i)),(bs,132,wc st),(bk,130,wc nums),(bd,25,Z0)] x) (fun i=>32-i) 0 ⟨Tv _,hF.keep [24,0,2,3,4,5,23] rfl,hA16⟩ ?_
   clear hF
   rintro i a wr ⟨hi,hF,hAr⟩
   by_cases hlt:i<32
   ·apply wp_seq_k; intro K71 hK71
    refine wS hF fun K72 hK72=>vX O<|vV O (aH O O O O (dB ag))<|vE hK72<|vT1 O<|wKp hK71<|wQ fun K73 hK73=>wBk fun a hF=>?_
    refine wp_region_lit ?_
    refine vR hF<|vX O<|vX O<|vV O (mQ O O O ae (AQ i ag))<|vV O (aP O Uh wK rfl rfl (i/4) rfl ag (ad1 _ _) (rfl:(none:Option Nat)=none))<|vV O (df O hAr O 1 O (oQ (by rw [hsl]; omega)) jP) fun a hF=>?_
    refine vR hF<|vX O<|vV O (fO O O O ae (MB i))<|vV O (uw O O O (TB _ ag))<|vV O (dm O O O (TB _ ag))<|vV O (fP O TP TQ O (show IntKind.u64.wrap (24-8*((i%4:Nat):Int))=24-8*((i%4:Nat):Int) by rw [IntKind.wrap_u64]; omega)) fun a hF=>?_
    refine vR hF<|vV O (mP O O O ag rfl)<|vV O (fP O Uc TA O (O7 _ _ (Nat.mod_lt _ ae)))<|vV O (aP O Tz nV rfl rfl i rfl hlt (ad1 _ _) (rfl:(none:Option Nat)=none)) fun a hF=>?_
    refine au O (fun K hK=>fQ hF O O hAr O O 0 O (by rw [aj,uh st hsl i hi]; exact hlt) rfl nV (fun w17 hA17=>hK _ _ ?_))
    replace hA17:At w [(bo,25,dc (ob st (i+1))),(bs,132,wc st),(bk,130,wc nums),(bd,25,Z0)] w17:=by rw [← RJ st hsl i hlt]; exact hA17
    refine az<|hK73 _ _ ?_
    refine wp_region_lit ?_
    refine vR hF<|vX O<|vV O (bH O O O (TB _ ag))<|vX O fun a hF=>?_
    refine az ?_
    exact ⟨i+1,ag,ag,hF.keep [24,0,2,3,4,5,23] rfl,hA17⟩
   ·obtain rfl:i=32:=by omega
    rw [hSha] at hAr
    apply wp_seq_k; intro K74 hK74
    refine wS hF fun K75 hK75=>vX O<|vV O (aH O O O O (dD ag))<|vE hK75<|vF1 O fun a hF=>?_
    apply wp_exit
    refine hK69 _ _ ?_
    refine wS hF fun K76 hK76=>vV O (iR O hAr O 0 O Cb (by rw [aj,dH]; decide) (by rw [List.drop_zero,TJ (by rw [aj,dH]; exact TG _)])) fun a hF=>?_
    refine au O (fun K hK=>eu hF O O hAr O O 3 O (by rw [hZl,aj,dH]) (bz _) (by rw [oV,hZl]) (fun w18 hA18=>hK _ _ ?_))
    replace hA18:At w [(bo,25,dc (sha l)),(bs,132,wc st),(bk,130,wc nums),(bd,25,dc (sha l))] w18:=hA18
    refine az<|hK76 _ _ ?_
    apply wp_ret
    refine jq hF Tryz.results50 hA18 O 3 O (by rw [aj,dH]; exact Cb) ?_
    refine ⟨rfl,hA18.clear (fun r hr=>?_)⟩
    simp only [List.mem_cons,List.not_mem_nil,or_false] at hr
    rcases hr with rfl | rfl | rfl | rfl <;> simp only <;> omega
end Go.Proofs.YtpomngkcfbnjoaaGreatDoor
