/- The walk of the reference's Sum: SHA-256 in rings. -/
import Derived.Test.YtepbmdlgdaedpaaGreatDoorRefNum
import Derived.Test.YtepbmdlgdaedpaaGreatDoorVc
/- The walk of the reference's Sum: SHA-256 in rings. -/
namespace Go.Proofs.YtepbmdlgdaedpaaGreatDoor
open Go.RowKit Go.Dk
theorem Gg:bT Tryz.prog 241 (.agg (wc (List.replicate 8 0)).toArray):=by unfold bT; kernel_rfl
theorem Nz:bT Tryz.prog 250 (.agg (wc (List.replicate 16 0)).toArray):=by unfold bT; kernel_rfl
theorem NR:(Tryz.prog.info? 241).map (·.size)=some 8:=af
theorem JZ (l:List Nat) (i n:Nat) (h:i<l.length):(wc (l.take i++List.replicate (n+1) 0)).set i (.int .u32 (wAt l i:Nat))=wc (l.take (i+1)++List.replicate n 0):=by
 rw [sU]
 congr 1
 have e:l.take (i+1)=l.take i++[wAt l i]:=by
  rw [List.take_succ_eq_append_getElem h]
  congr 2
  unfold wAt
  rw [List.getElem?_eq_getElem h]; rfl
 rw [List.set_append,if_neg (by rw [List.length_take]; omega),List.length_take,show i-min i l.length=0 by omega,e,List.replicate_succ,List.append_assoc]
 rfl
theorem Dn (i:Nat) (h:i<64):wAt nums i=wAt ks i:=by
 unfold nums wAt
 rw [List.getElem?_append_left (by exact h)]
theorem EQ (i:Nat):wAt nums (64+i)=wAt init8 i:=by
 unfold nums wAt
 rw [List.getElem?_append_right (by show 64≤64+i; omega)]
 congr 2
 show 64+i-64=i
 omega
theorem GN (x:Nat) (hx:x<4294967296):bits .xor .u32 (bits .xor .u32 (eX x 7:Nat) (eX x 18:Nat)) ((x:Int)/8)=(Bf x:Nat):=by
 rw [show (x:Int)/8=((x/2 ^ 3:Nat):Int) by omega,rX x 7 18 _ hx]; rfl
theorem GM (x:Nat) (hx:x<4294967296):bits .xor .u32 (bits .xor .u32 (eX x 17:Nat) (eX x 19:Nat)) ((x:Int)/1024)=(Be x:Nat):=by
 rw [show (x:Int)/1024=((x/2 ^ 10:Nat):Int) by omega,rX x 17 19 _ hx]; rfl
theorem AO (x:Nat) (hx:x<4294967296):bits .xor .u32 (bits .xor .u32 (eX x 6:Nat) (eX x 11:Nat)) (eX x 25:Nat)=(Nj x:Nat):=qA x 6 11 25 hx
theorem AP (x:Nat) (hx:x<4294967296):bits .xor .u32 (bits .xor .u32 (eX x 2:Nat) (eX x 13:Nat)) (eX x 22:Nat)=(JV x:Nat):=qA x 2 13 22 hx
theorem Df (e f g:Nat) (he:e<4294967296) (hf:f<4294967296) (hg:g<4294967296):bits .xor .u32 (g:Int) (bits .and .u32 (e:Int) (bits .xor .u32 (f:Int) (g:Int)))=(chN e f g:Nat):=by
 have h1:f ^^^ g<2 ^ 32:=Nat.xor_lt_two_pow (n:=32) hf hg
 rw [u32_xor_nat f g hf hg,u32_and_nat e _ he h1,u32_xor_nat g _ hg (Nat.lt_of_le_of_lt Nat.and_le_left he),PZ e f g hg]
theorem yY (a b c:Nat) (ha:a<4294967296) (hb:b<4294967296) (hc:c<4294967296):bits .or .u32 (bits .and .u32 (a:Int) (b:Int)) (bits .and .u32 (c:Int) (bits .or .u32 (a:Int) (b:Int)))=(BM a b c:Nat):=by
 have h1:a ||| b<2 ^ 32:=Nat.or_lt_two_pow (n:=32) ha hb
 rw [u32_and_nat a b ha hb,u32_or_nat a b ha hb,u32_and_nat c _ hc h1,u32_or_nat _ _ (Nat.lt_of_le_of_lt Nat.and_le_left ha) (Nat.lt_of_le_of_lt Nat.and_le_left hc),Oz]
theorem NM (s:St) (k w:Nat):(s.step k w).e=add32 s.d (s.x k w):=rfl
theorem step_a (s:St) (k w:Nat):(s.step k w).a=add32 (add32 (s.x k w) (JV s.a)) (BM s.a s.b s.c):=by
 show add32 (s.x k w) s.y=_
 unfold St.y add32; omega
theorem eY (x:Nat) (m:Int) (n:Nat) (hm:m=n) (hx:x<4294967296) (hn:0<n) (h32:n<32) (w:World) :
  Calls Tryz.prog 200 #[.int .u32 x,.int .i64 m] w fun e w'=>e= .returned (.int .u32 (eX x n:Nat))∧w=w':=by
 subst hm; exact EE x n hx hn h32 w
theorem FY (w:World) (A:Option Addr) (l:List UInt8) (c n i whole bt:Nat) (iv wv:Int) (hiv:iv=i) (hwv:wv=whole) (hn:n=l.length) (hB:Bts w A l) (hl:n<281474976710656) (hw:whole=jB n) (hi:i<whole) (hbt:bt=(bAt (padded l) i).toNat) :
  Calls Tryz.prog 199 #[.slice A n c,.int .i64 iv,.int .i64 wv] w fun e w'=>e= .returned (.int .u8 (bt:Int))∧w=w':=by
 subst hiv hwv hbt
 exact CE w A l c n i whole hn hB hl hw hi
theorem OZ (P:List UInt8) (j i:Nat) (h:i<64):bAt ((P.drop (64*j)).take 64) i=bAt P (64*j+i):=by rw [AA h,AB]
theorem iq (N:Int) (n t:Nat) (hN:N=n) (ht:t<64) (hn:64≤n):(N-t).tmod 8=(((n-t)%8:Nat):Int):=by
 subst hN; rw [Int.tmod_eq_emod_of_nonneg ag]; omega
theorem ik (N:Int) (n t:Nat) (hN:N=n) (ht:t<64) (hn:n<100):IntKind.i64.wrap (N-t)=N-t:=by subst hN; exact Qu _ ag
theorem xB (N:Int) (n t:Nat) (hN:N=n):((t:Int)+N).tmod 16=(((t+n)%16:Nat):Int):=by
 subst hN; rw [Int.tmod_eq_emod_of_nonneg ag]; omega
theorem rZ (t:Nat):(t:Int).tmod 16=((t%16:Nat):Int):=by rw [Int.tmod_eq_emod_of_nonneg ag]; omega
theorem xA (N:Int) (n t:Nat) (hN:N=n) (ht:t<64) (hn:n<100):IntKind.i64.wrap ((t:Int)+N)=(t:Int)+N:=by subst hN; exact Qu _ ag
theorem iP (t:Nat) (s:St) (n j:Nat) (hn:n=64+j) (ht:t<64) (hj:j<8):(wc (dP t s))[(n-t)%8]? = some (.int .u32 (wAt s.list j:Nat)):=by
 subst hn
 rw [ny (by rw [gK]; exact Nat.mod_lt _ ae),Bo t s j ag hj]
theorem rY (t:Nat) (V:List Nat) (j:Nat) (h16:¬ t<16) (ht:t<64) (hj:j<16):(wc (fG (max t 16) V))[(t+j)%16]? = some (.int .u32 (wAt V (t-16+j):Nat)):=by
 rw [ny (by rw [kK]; exact Nat.mod_lt _ ae),show max t 16=t by omega,Bj t V j ag ag hj]
theorem ww (t:Nat) (V:List Nat) (ht:t<64):(wc (fG (max (t+1) 16) V))[t%16]? = some (.int .u32 (wAt V t:Nat)):=by
 rw [ny (by rw [kK]; exact Nat.mod_lt _ ae)]
 by_cases h16:t<16
 ·rw [show max (t+1) 16=16 by omega,zi t V h16]
 ·rw [show max (t+1) 16=t+1 by omega,EC t V ag ht]
theorem Ey (t:Nat) (V:List Nat) (h16:¬ t<16) (ht:t<64):(wc (fG (max t 16) V)).set (t%16) (.int .u32 (wAt V t:Nat))=wc (fG (max (t+1) 16) V):=by
 rw [sU,show max t 16=t by omega,show max (t+1) 16=t+1 by omega,Ez t V ag ht _ rfl]
theorem wz (t:Nat) (s:St) (k w:Nat) (ht:t<64):((wc (dP t s)).set ((67-t)%8) (.int .u32 (add32 s.d (s.x k w):Nat))).set ((71-t)%8) (.int .u32 (add32 (add32 (s.x k w) (JV s.a)) (BM s.a s.b s.c):Nat))=wc (dP (t+1) (s.step k w)):=by
 rw [sU,sU,ED t s _ _ k w ht (NM s k w).symm (step_a s k w).symm]
theorem Gp (B:List UInt8) (i:Nat) (hi:i<64):(wc (iU B i)).set (i/4) (.int .u32 ((wAt (iU B i) (i/4)*256%4294967296 ||| (bAt B i).toNat:Nat):Int))=wc (iU B (i+1)):=by
 rw [sU,Eg B i _ hi rfl]
theorem GU (p:Nat):IntKind.u32.wrap ((p:Int)*2 ^ min (8:Int).toNat IntKind.u32.bits)=((p*256%4294967296:Nat):Int):=by
 rw [IntKind.wrap_u32',show min (8:Int).toNat IntKind.u32.bits=8 by decide]; omega
theorem KX (p:Nat) (b:UInt8):bits .or .u32 ((p*256%4294967296:Nat):Int) (b.toNat:Int)=((p*256%4294967296 ||| b.toNat:Nat):Int):=by
 have:=b.toNat_lt
 exact u32_or_nat _ _ (Nat.mod_lt _ ae) ag
theorem I4 (i:Nat):IntKind.i64.wrap ((i:Int).tdiv 4)=((i/4:Nat):Int)∨64≤i:=by
 by_cases h:i<64
 ·left
  rw [Int.tdiv_eq_ediv_of_nonneg ag,Qu _ ag]; omega
 ·right; omega
theorem yj (i:Nat) (h:i<64):IntKind.i64.wrap ((i:Int).tdiv 4)=((i/4:Nat):Int):=(I4 i).resolve_right ag
theorem Ia (i:Nat):(i:Int).tmod 4=((i%4:Nat):Int):=by rw [Int.tmod_eq_emod_of_nonneg ag]; omega
theorem GR (x:Nat):(x:Int).fdiv (2 ^ min (3:Int).toNat IntKind.u32.bits)=(x:Int)/8:=by
 rw [show min (3:Int).toNat IntKind.u32.bits=3 by decide,Int.fdiv_eq_ediv_of_nonneg _ ae]; rfl
theorem Ep (x:Nat):(x:Int).fdiv (2 ^ min (10:Int).toNat IntKind.u32.bits)=(x:Int)/1024:=by
 rw [show min (10:Int).toNat IntKind.u32.bits=10 by decide,Int.fdiv_eq_ediv_of_nonneg _ ae]; rfl
theorem KT (v m:Nat) (hm:m<4):IntKind.u8.wrap ((v:Int).fdiv (2 ^ min (24-8*(m:Int)).toNat IntKind.u32.bits))=((v/256 ^ (3-m):Nat)%256:Int):=by
 have h1:min (24-8*(m:Int)).toNat IntKind.u32.bits=8*(3-m):=by
  rw [show IntKind.u32.bits=32 from rfl]; omega
 rw [h1,Int.fdiv_eq_ediv_of_nonneg _ (Int.pow_nonneg ae),IntKind.wrap_u8]
 exact xx v (3-m) (8*(3-m)) O
theorem yE (b:UInt8):IntKind.u32.wrap (b.toNat:Int)=(b.toNat:Int):=by rw [IntKind.wrap_u32']; have:=b.toNat_lt; omega
theorem Ou (st:List Nat) (h:st.length=8) (i:Nat) (hi:i<32):(dc (ob st i)).set i (.int .u8 ((wAt st (i/4)/256 ^ (3-i%4):Nat)%256:Int))=dc (ob st (i+1)):=by
 have h0:=Dl st h (i/4) (i%4) ag ag
 rw [← Nat.add_assoc,show 4*(i/4)+i%4=i by omega] at h0
 exact h0
theorem zl (V st:List Nat) (h:st.length=8):dP 0 (rounds V (St.of st) 0)=st:=by
 apply lw
 ·rw [gK,h]
 ·intro i hi
  have hi8:i<8:=by omega
  rw [nH _ _ _ hi8,show (i+0)%8=i by omega]
  have:i=0∨i=1∨i=2∨i=3∨i=4∨i=5∨i=6∨i=7:=by omega
  rcases this with rfl | rfl | rfl | rfl | rfl | rfl | rfl | rfl <;> rfl
theorem Bl (S:St):dP 64 S=S.list:=by
 apply lw
 ·rw [gK]; rfl
 ·intro i hi
  have hi8:i<8:=hi
  rw [nH _ _ _ hi8,show (i+64)%8=i by omega]
theorem jG:bD Tryz.prog 150=true:=af
theorem P6:isRow Tryz.prog 241 8=true:=af
theorem Ql:aP Tryz.prog 198:=⟨_,Tryz.func198,af,af⟩
theorem Qk:aP Tryz.prog 199:=⟨_,Tryz.func199,af,af⟩
theorem oH:aP Tryz.prog 200:=⟨_,Tryz.func200,af,af⟩
set_option maxRecDepth 100000 in
set_option maxHeartbeats 2000000 in
theorem Bz (w:World) (A:Option Addr) (l:List UInt8) (c n:Nat) (hn:n=l.length) (hB:Bts w A l) (hl:n<140737488355328) :
  Calls Tryz.prog 167 #[.slice A n c] w fun e w'=>e= .returned (.agg (dc (sha l)).toArray)∧At w [] w':=by
 obtain ⟨P,hP⟩:∃ P,P=padded l:=⟨_,rfl⟩
 obtain ⟨nb,hnb⟩:∃ k,k=(n+72)/64:=⟨_,rfl⟩
 have hwh:64*nb=jB n:=by rw [hnb]; unfold jB; omega
 have hwb:64*nb≤n+72:=by omega
 obtain ⟨Z0,hZ0⟩:∃ Z,Z=dc (List.replicate 32 0):=⟨_,rfl⟩
 have hZl:Z0.length=32:=by rw [hZ0]; rfl
 have hNl:(wc nums).length=72:=by rw [bz,nums_length]
 have hA0:=At.refl w
 refine aQ Tryz.func167 O Tryz.ntmps167 ai (fun a hF=>?_)
 refine wp_seq_k fun K1 hK1=>wp_region_lit ?_
 refine ax O (fun K hK=>iT hF O ae rfl hA0 oL (fun bd w1 a hbd hF hA1=>hK _ _ ?_))
 replace hA1:At w [(bd,29,Z0)] w1:=by rw [hZ0]; exact hA1
 refine aK<|hK1 _ _ ?_
 refine wp_seq_k fun K2 hK2=>wp_region_lit ?_
 refine ax O (fun K hK=>ay hF O ae Ql rfl rfl ?_)
 with_reducible refine (zA w1).mono ?_
 rintro e' w2 ⟨rfl,hc2⟩
 refine ⟨_,rfl,fun a hF=>hK _ _ ?_⟩
 have hA2:=hA1.then0 hc2
 clear hc2
 refine ax O (fun K hK=>iT hF O ae rfl hA2 wC (fun bk w3 a hbk hF hA3=>hK _ _ ?_))
 refine ax O (fun K hK=>lg hF O O hA3 O O 0 O (by rw [hNl,bz]; decide) (fun v hv=>AX _ v (by simpa using hv)) (by rw [wE,hNl]) (fun w4 hA4=>hK _ _ ?_))
 replace hA4:At w [(bk,248,wc nums),(bd,29,Z0)] w4:=by rw [← iD (wc (List.replicate 72 0)) (wc nums) (by rw [bz,hNl]; rfl)]; exact hA4
 refine aK<|hK2 _ _ ?_
 refine wS hF fun K3 hK3=>vX O<|vV O (aT O Qv O O)<|vV O (bH O O O (Qu _ ag))<|vV O (CS O O O ae (show IntKind.i64.wrap ((((n:Int)+72).tdiv 64))=(nb:Int) by rw [Int.tdiv_eq_ediv_of_nonneg ag,Qu _ ag]; omega)) fun a hF=>?_
 refine vR hF<|vV O (sK O O O (show IntKind.i64.wrap ((nb:Int)*64)=((64*nb:Nat):Int) by rw [Qu _ ag]; omega)) fun a hF=>?_
 refine vR hF<|vX O<|vE hK3 fun a hF=>?_
 refine wp_seq_k fun K4 hK4=>wp_region_lit ?_
 refine ax O (fun K hK=>iT hF O ae rfl hA4 Gg (fun bs w5 a hbs hF hA5=>hK _ _ ?_))
 refine aK<|hK4 _ _ ?_
 apply wp_seq_k; intro K5 hK5
 refine wS hF fun K6 hK6=>vX O<|vE hK6<|wBk fun a hF=>?_
 have q0:w.heap.size≤bd:=hbd
 have q1:bd<bk:=by have:=hA2.lt (k:=0) rfl; omega
 have q2:bk<bs:=by have:=hA4.lt (k:=0) rfl; omega
 refine bG (G:=Nat) (fun i a x=>i≤8∧Fr 242 [(6,.int .i64 (i:Int)),(0,.slice A n c),(2,.pointer (some ⟨bd,0,none⟩)),(3,.pointer (some ⟨bk,0,none⟩)),(4,.int .i64 ((64*nb:Nat):Int)),(5,.pointer (some ⟨bs,0,none⟩))] a∧At w [(bs,241,wc (init8.take i++List.replicate (8-i) 0)),(bk,248,wc nums),(bd,29,Z0)] x) (fun i=>8-i) 0 ⟨Qs _,hF.keep [6,0,2,3,4,5] rfl,hA5⟩ ?_
 clear hF
 rintro i a wr ⟨hi,hF,hAr⟩
 clear hA0 hA1 hA2 hA3 hA4 hA5
 by_cases hlt:i<8
 ·apply wp_seq_k; intro K7 hK7
  refine wS hF fun K8 hK8=>vX O<|vV O (aJ O O O O (dA ag))<|vE hK8<|vT1 O<|wKp hK7<|wQ fun K9 hK9=>wBk fun a hF=>?_
  refine wp_region_lit ?_
  refine vR hF<|vX O<|vX O<|vV O (bH O O O (Qu _ ag))<|vV O (bY O QW tX rfl rfl (64+i) ag ag (ad1 _ _) (rfl:(none:Option Nat)=none))<|vV O (aZ O hAr O 1 O (show (wc nums)[64+i]? = some (.int .u32 (wAt init8 i:Nat)) by rw [ny (by rw [nums_length]; omega),EQ]) jG) fun a hF=>?_
  refine vR hF<|vV O (bY O QX tX rfl rfl i rfl hlt (ad1 _ _) (rfl:(none:Option Nat)=none)) fun a hF=>?_
  refine ax O (fun K hK=>dO hF O O hAr O O 0 O (by rw [bz,List.length_append,List.length_take,List.length_replicate,qf]; omega) rfl tX (fun w6 hA6=>hK _ _ ?_))
  replace hA6:At w [(bs,241,wc (init8.take (i+1)++List.replicate (8-(i+1)) 0)),(bk,248,wc nums),(bd,29,Z0)] w6:=by
    have h:=JZ init8 i (8-(i+1)) (by rw [qf]; exact hlt)
    rw [show 8-(i+1)+1=8-i by omega] at h
    rw [← h]; exact hA6
  refine aK<|hK9 _ _ ?_
  refine wp_region_lit ?_
  refine vR hF<|vX O<|vV O (bH O O O (Qu _ ag))<|vX O fun a hF=>?_
  refine aK ?_
  exact ⟨i+1,ag,ag,hF.keep [6,0,2,3,4,5] rfl,hA6⟩
 ·obtain rfl:i=8:=by omega
  apply wp_seq_k; intro K10 hK10
  refine wS hF fun K11 hK11=>vX O<|vV O (aJ O O O O (dm ag))<|vE hK11<|vF1 O fun a hF=>?_
  replace hAr:At w [(bs,241,wc (blocks 0 init8 P)),(bk,248,wc nums),(bd,29,Z0)] wr:=hAr
  apply wp_exit
  refine hK5 _ _ ?_
  apply wp_seq_k; intro K12 hK12
  refine wS hF fun K13 hK13=>vX O<|vE hK13<|wBk fun a hF=>?_
  refine bG (G:=Nat) (fun j a x=>j≤nb∧Fr 242 [(7,.int .i64 (64*(j:Int))),(0,.slice A n c),(2,.pointer (some ⟨bd,0,none⟩)),(3,.pointer (some ⟨bk,0,none⟩)),(4,.int .i64 ((64*nb:Nat):Int)),(5,.pointer (some ⟨bs,0,none⟩))] a∧At w [(bs,241,wc (blocks j init8 P)),(bk,248,wc nums),(bd,29,Z0)] x) (fun j=>nb-j) 0 ⟨Qs _,hF.keep [7,0,2,3,4,5] rfl,hAr⟩ ?_
  clear hF
  rintro j a wr ⟨hj,hF,hAr⟩
  clear hi
  by_cases hlt:j<nb
  ·obtain ⟨st,hst⟩:∃ st,st=blocks j init8 P:=⟨_,rfl⟩
   obtain ⟨B,hBk⟩:∃ B,B=(P.drop (64*j)).take 64:=⟨_,rfl⟩
   obtain ⟨V,hV⟩:∃ V,V=sched 48 (words 16 B):=⟨_,rfl⟩
   have hC:compress st B=blocks (j+1) init8 P:=by rw [hst,hBk,oZ]
   have hsl:st.length=8:=by rw [hst]; exact bi _ _ _ rfl
   have hslt:∀ x∈st,x<4294967296:=by rw [hst]; exact oG _ _ _ qc
   rw [← hst] at hAr
   apply wp_seq_k; intro K14 hK14
   refine wS hF fun K15 hK15=>vX O<|vX O<|vV O (aJ O O O O (dA ag))<|vE hK15<|vT1 O<|wKp hK14<|wQ fun K16 hK16=>wBk fun a hF=>?_
   refine wp_seq_k fun K17 hK17=>wp_region_lit ?_
   refine ax O (fun K hK=>iT hF O ae rfl hAr Nz (fun bw w7 a hbw hF hA7=>hK _ _ ?_))
   replace hA7:At w [(bw,250,wc (iU B 0)),(bs,241,wc st),(bk,248,wc nums),(bd,29,Z0)] w7:=by rw [AU]; exact hA7
   refine aK<|hK17 _ _ ?_
   apply wp_seq_k; intro K18 hK18
   refine wS hF fun K19 hK19=>vX O<|vE hK19<|wBk fun a hF=>?_
   have q3:bs<bw:=by have:=hAr.lt (k:=0) rfl; omega
   refine bG (G:=Nat) (fun i a x=>i≤64∧Fr 242 [(9,.int .i64 (i:Int)),(0,.slice A n c),(2,.pointer (some ⟨bd,0,none⟩)),(3,.pointer (some ⟨bk,0,none⟩)),(4,.int .i64 ((64*nb:Nat):Int)),(5,.pointer (some ⟨bs,0,none⟩)),(7,.int .i64 (64*(j:Int))),(8,.pointer (some ⟨bw,0,none⟩))] a∧At w [(bw,250,wc (iU B i)),(bs,241,wc st),(bk,248,wc nums),(bd,29,Z0)] x) (fun i=>64-i) 0 ⟨Qs _,hF.keep [9,0,2,3,4,5,7,8] rfl,hA7⟩ ?_
   clear hF
   rintro i a wr ⟨hi,hF,hAr⟩
   clear hA7
   by_cases hlt:i<64
   ·have hni:∀ r∈[(bw,250,wc (iU B i)),(bs,241,wc st),(bk,248,wc nums),(bd,29,Z0)],w.heap.size≤(r:Row).1:=by
     intro r hr; simp only [List.mem_cons,List.not_mem_nil,or_false] at hr; rcases hr with h | h | h | h <;> subst h <;> simp only <;> omega
    have hbu:bAt (padded l) (64*j+i)=bAt B i:=by rw [hBk,OZ _ _ _ hlt,hP]
    apply wp_seq_k; intro K20 hK20
    refine wS hF fun K21 hK21=>vX O<|vV O (aJ O O O O (dA ag))<|vE hK21<|vT1 O<|wKp hK20<|wQ fun K22 hK22=>wBk fun a hF=>?_
    refine aU 16 [12,16] [0,1,2,3,4,5,6,7,8,9,10,11,12,13,14,15,16] (At w [(bw,250,wc (iU B i)),(bs,241,wc st),(bk,248,wc nums),(bd,29,Z0)]) af af (hAr.drew) ?_
    refine pR hF<|pX O O<|pW O O (fun _=>CS O O O ae (yj i hlt))<|pX O O<|pW O O (fun _=>CS O O O ae (yj i hlt))<|pW O O (fun _=>bY O QY tX rfl rfl (i/4) rfl ag (ad1 _ _) (rfl:(none:Option Nat)=none))<|pV O O (fun x hx=>aZ O hx O 0 O (ny (l:=iU B i) (i:=i/4) (by rw [jw]; omega)) jG) fun a hF=>?_
    refine pR hF<|pW O O (fun _=>yA O O O ae (GU _))<|pX O O<|pX O O<|pX O O<|pW O O (fun _=>bH O O O (Qu _ ag))<|pX O O fun a hF=>?_
    refine gG O O O (fun K hK=>ay hF O ae Qk rfl rfl ?_)
    with_reducible refine (FY _ A l c n (64*j+i) (64*nb) _ _ _ ag rfl hn (hB.fresh hAr.drew hni) ag hwh ag rfl).mono ?_
    rintro e' w' ⟨rfl,rfl⟩
    refine ⟨_,rfl,fun a hF=>hK _ _ (fun _=>hAr.drew) ?_⟩
    rw [hbu] at hF
    refine pR hF<|pW O O (fun _=>bQ O QJ QT O (yE _))<|pW O O (fun _=>wY O O O (KX _ _))<|pW O O (fun _=>bY O QY tX rfl rfl (i/4) rfl ag (ad1 _ _) (rfl:(none:Option Nat)=none)) fun a hF=>?_
    refine gG O O O (fun K hK=>dO hF O O hAr.drew rfl rfl 0 O (by rw [bz,jw]; omega) rfl tX (fun w8 hA8=>hK _ _ (fun h=>absurd h ae) ?_))
    replace hA8:At w [(bw,250,wc (iU B (i+1))),(bs,241,wc st),(bk,248,wc nums),(bd,29,Z0)] w8:=by rw [← Gp B i hlt]; exact hA8
    refine bP ?_
    refine hK22 _ _ ?_
    refine wp_region_lit ?_
    refine vR hF<|vX O<|vV O (bH O O O (Qu _ ag))<|vX O fun a hF=>?_
    refine aK ?_
    exact ⟨i+1,ag,ag,hF.keep [9,0,2,3,4,5,7,8] rfl,hA8⟩
   ·obtain rfl:i=64:=by omega
    replace hAr:At w [(bw,250,wc (fG 16 V)),(bs,241,wc st),(bk,248,wc nums),(bd,29,Z0)] wr:=by rw [hV,xk,← Eh]; exact hAr
    apply wp_seq_k; intro K23 hK23
    refine wS hF fun K24 hK24=>vX O<|vV O (aJ O O O O (dm ag))<|vE hK24<|vF1 O fun a hF=>?_
    apply wp_exit
    refine hK18 _ _ ?_
    refine wS hF fun K25 hK25=>vV O (lF O hAr O 1 O P6 (by rw [bz,hsl]; decide) (by rw [List.drop_zero,Qz (by rw [bz,hsl]; exact Qw _)])) fun a hF=>?_
    refine ax O (fun K hK=>iT hF O ae rfl hAr Gg (fun br w9 a hbr hF hA9=>hK _ _ ?_))
    refine ax O (fun K hK=>lg hF O O hA9 O O 0 O (by rw [bz,bz,hsl]; decide) (fun v hv=>AX _ v (by simpa using hv)) (by rw [NR,bz,hsl]) (fun w10 hA10=>hK _ _ ?_))
    replace hA10:At w [(br,241,wc st),(bw,250,wc (fG 16 V)),(bs,241,wc st),(bk,248,wc nums),(bd,29,Z0)] w10:=by
      have e:=iD (wc (List.replicate 8 0)) (wc st) (by rw [bz,bz,hsl]; rfl)
      rw [List.set_cons_zero,e] at hA10
      exact hA10
    refine aK<|hK25 _ _ ?_
    apply wp_seq_k; intro K26 hK26
    refine wS hF fun K27 hK27=>vX O<|vE hK27<|wBk fun a hF=>?_
    have q4:bw<br:=by have:=hAr.lt (k:=0) rfl; omega
    replace hA10:At w [(br,241,wc (dP 0 (rounds V (St.of st) 0))),(bw,250,wc (fG (max 0 16) V)),(bs,241,wc st),(bk,248,wc nums),(bd,29,Z0)] w10:=by rw [zl V st hsl]; exact hA10
    refine bG (G:=Nat) (fun t a x=>t≤64∧Fr 242 [(11,.int .i64 (t:Int)),(0,.slice A n c),(2,.pointer (some ⟨bd,0,none⟩)),(3,.pointer (some ⟨bk,0,none⟩)),(4,.int .i64 ((64*nb:Nat):Int)),(5,.pointer (some ⟨bs,0,none⟩)),(7,.int .i64 (64*(j:Int))),(8,.pointer (some ⟨bw,0,none⟩)),(10,.pointer (some ⟨br,0,none⟩))] a∧At w [(br,241,wc (dP t (rounds V (St.of st) t))),(bw,250,wc (fG (max t 16) V)),(bs,241,wc st),(bk,248,wc nums),(bd,29,Z0)] x) (fun t=>64-t) 0 ⟨Qs _,hF.keep [11,0,2,3,4,5,7,8,10] rfl,hA10⟩ ?_
    clear hF
    rintro t a wr ⟨ht,hF,hAr⟩
    clear hA9 hA10 hi
    by_cases hlt:t<64
    ·obtain ⟨S,hS⟩:∃ S,S=rounds V (St.of st) t:=⟨_,rfl⟩
     obtain ⟨ha,hb,hc,hd,he,hf,hg,hh⟩:St.ok S:=by rw [hS]; exact wB _ (Nu hslt) t
     have hVlt:∀ k,wAt V k<4294967296:=fun k=>by rw [hV]; exact kQ _ (tY _ _ (sS _ _)) k
     have hN:S.step (wAt ks t) (wAt V t)=rounds V (St.of st) (t+1):=by rw [hS]; rfl
     rw [← hS] at hAr
     apply wp_seq_k; intro K28 hK28
     refine wS hF fun K29 hK29=>vX O<|vV O (aJ O O O O (dA ag))<|vE hK29<|vT1 O fun a hF=>?_
     by_cases h16:t<16
     ·have hAw:At w [(br,241,wc (dP t S)),(bw,250,wc (fG (max (t+1) 16) V)),(bs,241,wc st),(bk,248,wc nums),(bd,29,Z0)] wr:=by rw [show max (t+1) 16=max t 16 by omega]; exact hAr
      apply wp_skip
      refine hK28 _ _ ?_
      apply wp_seq_k; intro K30 hK30
      apply wp_block
      apply wp_seq_k; intro K31 hK31
      refine wS hF fun K32 hK32=>vX O<|vV O (aJ O O O O (wO ag))<|vE hK32<|vF1 O<|wKp hK31<|wT fun K33 hK33=>vX O<|vV O (dE O O O (ik 64 64 t rfl hlt ae))<|vV O (gq O O O ae (iq 64 64 t rfl hlt ae))<|vV O (bY O QX tX rfl rfl _ O (Nat.mod_lt _ ae) (ad1 _ _) (rfl:(none:Option Nat)=none))<|vV O (aZ O hAw O 0 O (show (wc (dP t S))[(64-t)%8]? = some (.int .u32 (S.a:Nat)) from iP t S 64 0 O hlt ae) jG) fun a hF=>?_
      refine vR hF<|vX O<|vE hK33<|wT fun K34 hK34=>vX O<|vV O (dE O O O (ik 68 68 t rfl hlt ae))<|vV O (gq O O O ae (iq 68 68 t rfl hlt ae))<|vV O (bY O QX tX rfl rfl _ O (Nat.mod_lt _ ae) (ad1 _ _) (rfl:(none:Option Nat)=none))<|vV O (aZ O hAw O 0 O (show (wc (dP t S))[(68-t)%8]? = some (.int .u32 (S.e:Nat)) from iP t S 68 4 O hlt ae) jG) fun a hF=>?_
      refine vR hF<|vX O<|vE hK34<|wT fun K35 hK35=>vX O<|vV O (dE O O O (ik 69 69 t rfl hlt ae))<|vV O (gq O O O ae (iq 69 69 t rfl hlt ae))<|vV O (bY O QX tX rfl rfl _ O (Nat.mod_lt _ ae) (ad1 _ _) (rfl:(none:Option Nat)=none))<|vV O (aZ O hAw O 0 O (show (wc (dP t S))[(69-t)%8]? = some (.int .u32 (S.f:Nat)) from iP t S 69 5 O hlt ae) jG) fun a hF=>?_
      refine vR hF<|vX O<|vE hK35<|wT fun K36 hK36=>vX O<|vV O (dE O O O (ik 70 70 t rfl hlt ae))<|vV O (gq O O O ae (iq 70 70 t rfl hlt ae))<|vV O (bY O QX tX rfl rfl _ O (Nat.mod_lt _ ae) (ad1 _ _) (rfl:(none:Option Nat)=none))<|vV O (aZ O hAw O 0 O (show (wc (dP t S))[(70-t)%8]? = some (.int .u32 (S.g:Nat)) from iP t S 70 6 O hlt ae) jG) fun a hF=>?_
      refine vR hF<|vX O<|vE hK36<|wT fun K37 hK37=>vX O<|vV O (dE O O O (ik 71 71 t rfl hlt ae))<|vV O (gq O O O ae (iq 71 71 t rfl hlt ae))<|vX O fun a hF=>?_
      refine aK ?_
      replace hF:=hF.keep [11,0,2,3,4,5,7,8,10,14,15,16,17,18] rfl
      refine hK37 _ _ ?_
      apply wp_seq_k; intro K38 hK38
      refine aU 29 [4,6,9,29] [0,1,2,3,5,8,12,13,14,15,16,17,18,20,21,22,24,25,26,27,4,6,7,9,10,11,19,23,28,29] (At w [(br,241,wc (dP t S)),(bw,250,wc (fG (max (t+1) 16) V)),(bs,241,wc st),(bk,248,wc nums),(bd,29,Z0)]) af af (hAw.drew) ?_
      refine pR hF<|pX O O<|pW O O (fun _=>bY O QX tX rfl rfl _ O (Nat.mod_lt _ ae) (ad1 _ _) (rfl:(none:Option Nat)=none))<|pV O O (fun x hx=>aZ O hx O 0 O (show (wc (dP t S))[(71-t)%8]? = some (.int .u32 (S.h:Nat)) from iP t S 71 7 O hlt ae) jG) fun a hF=>?_
      refine pR hF<|pX O O<|pX O O<|pX O O<|pX O O<|pX O O<|pX O O<|pX O O<|pW O O (fun _=>kE O O O O)<|pW O O (fun _=>vO O O O O)<|pW O O (fun _=>kE O O O (Df _ _ _ he hf hg))<|pX O O<|pW O O (fun _=>bY O QW tX rfl rfl t rfl ag (ad1 _ _) (rfl:(none:Option Nat)=none))<|pV O O (fun x hx=>aZ O hx O 3 O (show (wc nums)[t]? = some (.int .u32 (wAt ks t:Nat)) by rw [ny (by rw [nums_length]; omega),Dn t hlt]) jG) fun a hF=>?_
      refine pR hF<|pX O O<|pW O O (fun _=>gq O O O ae (rZ t))<|pW O O (fun _=>bY O QY tX rfl rfl _ O (Nat.mod_lt _ ae) (ad1 _ _) (rfl:(none:Option Nat)=none))<|pV O O (fun x hx=>aZ O hx O 1 O (ww t V hlt) jG) fun a hF=>?_
      refine gG O O O (fun K hK=>ay hF O ae oH rfl rfl ?_)
      with_reducible refine (eY _ 6 6 O he ae ae _).mono ?_
      rintro e' w' ⟨rfl,rfl⟩
      refine ⟨_,rfl,fun a hF=>hK _ _ (fun _=>hAw.drew) ?_⟩
      refine gG O O O (fun K hK=>ay hF O ae oH rfl rfl ?_)
      with_reducible refine (eY _ 11 11 rfl he ae ae _).mono ?_
      rintro e' w' ⟨rfl,rfl⟩
      refine ⟨_,rfl,fun a hF=>hK _ _ (fun _=>hAw.drew) ?_⟩
      refine pR hF<|pW O O (fun _=>kE O O O O) fun a hF=>?_
      refine gG O O O (fun K hK=>ay hF O ae oH rfl rfl ?_)
      with_reducible refine (eY _ 25 25 rfl he ae ae _).mono ?_
      rintro e' w' ⟨rfl,rfl⟩
      refine ⟨_,rfl,fun a hF=>hK _ _ (fun _=>hAw.drew) ?_⟩
      refine pR hF<|pW O O (fun _=>kE O O O (AO _ he))<|pW O O (fun _=>bH O O O (dZ _ _))<|pW O O (fun _=>bH O O O (dZ _ _))<|pW O O (fun _=>bH O O O (dZ _ _))<|pW O O (fun _=>bH O O O (dZ _ _)) fun a hF=>?_
      refine gu hF O O O O ae _ (jW O O) (fun h=>absurd h ae) (fun a hF=>?_)
      refine bP ?_
      have hA11:=hAw.drew
      refine hK38 _ _ ?_
      refine wS hF fun K39 hK39=>vX O<|vV O (dE O O O (ik 65 65 t rfl hlt ae))<|vV O (gq O O O ae (iq 65 65 t rfl hlt ae))<|vV O (bY O QX tX rfl rfl _ O (Nat.mod_lt _ ae) (ad1 _ _) (rfl:(none:Option Nat)=none))<|vV O (aZ O hA11 O 0 O (show (wc (dP t S))[(65-t)%8]? = some (.int .u32 (S.b:Nat)) from iP t S 65 1 O hlt ae) jG) fun a hF=>?_
      refine vR hF<|vX O<|vE hK39<|wT fun K40 hK40=>vX O<|vV O (dE O O O (ik 66 66 t rfl hlt ae))<|vV O (gq O O O ae (iq 66 66 t rfl hlt ae))<|vV O (bY O QX tX rfl rfl _ O (Nat.mod_lt _ ae) (ad1 _ _) (rfl:(none:Option Nat)=none))<|vV O (aZ O hA11 O 0 O (show (wc (dP t S))[(66-t)%8]? = some (.int .u32 (S.c:Nat)) from iP t S 66 2 O hlt ae) jG) fun a hF=>?_
      refine vR hF<|vX O<|vE hK40<|wT fun K41 hK41=>vX O<|vV O (dE O O O (ik 67 67 t rfl hlt ae))<|vV O (gq O O O ae (iq 67 67 t rfl hlt ae))<|vX O<|vV O (dE O O O (ik 67 67 t rfl hlt ae))<|vV O (gq O O O ae (iq 67 67 t rfl hlt ae))<|vV O (bY O QX tX rfl rfl _ O (Nat.mod_lt _ ae) (ad1 _ _) (rfl:(none:Option Nat)=none))<|vV O (aZ O hA11 O 0 O (show (wc (dP t S))[(67-t)%8]? = some (.int .u32 (S.d:Nat)) from iP t S 67 3 O hlt ae) jG) fun a hF=>?_
      refine vR hF<|vX O<|vV O (bH O O O (dZ _ _))<|vV O (bY O QX tX rfl rfl _ O (Nat.mod_lt _ ae) (ad1 _ _) (rfl:(none:Option Nat)=none)) fun a hF=>?_
      refine ax O (fun K hK=>dO hF O O hA11 O O 0 O (by rw [bz,gK]; exact Nat.mod_lt _ ae) rfl tX (fun w12 hA12=>hK _ _ ?_))
      refine aK<|hK41 _ _ ?_
      refine wp_region_lit ?_
      refine vR hF<|vX O<|vX O<|vX O fun a hF=>?_
      refine ax O (fun K hK=>ay hF O ae oH rfl rfl ?_)
      with_reducible refine (eY _ 2 2 O ha ae ae _).mono ?_
      rintro e' w' ⟨rfl,rfl⟩
      refine ⟨_,rfl,fun a hF=>hK _ _ ?_⟩
      refine vR hF<|vX O fun a hF=>?_
      refine ax O (fun K hK=>ay hF O ae oH rfl rfl ?_)
      with_reducible refine (eY _ 13 13 rfl ha ae ae _).mono ?_
      rintro e' w' ⟨rfl,rfl⟩
      refine ⟨_,rfl,fun a hF=>hK _ _ ?_⟩
      refine vR hF<|vV O (kE O O O O)<|vX O fun a hF=>?_
      refine ax O (fun K hK=>ay hF O ae oH rfl rfl ?_)
      with_reducible refine (eY _ 22 22 rfl ha ae ae _).mono ?_
      rintro e' w' ⟨rfl,rfl⟩
      refine ⟨_,rfl,fun a hF=>hK _ _ ?_⟩
      refine vR hF<|vV O (kE O O O (AP _ ha))<|vV O (bH O O O (dZ _ _))<|vX O<|vX O<|vV O (vO O O O O)<|vX O<|vX O<|vX O<|vV O (wY O O O O)<|vV O (vO O O O O)<|vV O (wY O O O (yY _ _ _ ha hb hc))<|vV O (bH O O O (dZ _ _))<|vV O (bY O QX tX rfl rfl _ O (Nat.mod_lt _ ae) (ad1 _ _) (rfl:(none:Option Nat)=none)) fun a hF=>?_
      refine ax O (fun K hK=>dO hF O O hA12 O O 0 O (by rw [List.length_set,bz,gK]; exact Nat.mod_lt _ ae) rfl tX (fun w13 hA13=>hK _ _ ?_))
      replace hA13:At w [(br,241,wc (dP (t+1) (rounds V (St.of st) (t+1)))),(bw,250,wc (fG (max (t+1) 16) V)),(bs,241,wc st),(bk,248,wc nums),(bd,29,Z0)] w13:=by rw [← hN,← wz t S _ _ hlt]; exact hA13
      refine aK<|hK30 _ _ ?_
      refine wp_region_lit ?_
      refine vR hF<|vX O<|vV O (bH O O O (Qu _ ag))<|vX O fun a hF=>?_
      refine aK ?_
      exact ⟨t+1,ag,ag,hF.keep [11,0,2,3,4,5,7,8,10] rfl,hA13⟩
     ·have hx15:=hVlt (t-16+1)
      have hx2:=hVlt (t-16+14)
      have hvt:((add32 (add32 (add32 (wAt V (t-16+0)) (Bf (wAt V (t-16+1)))) (wAt V (t-16+9))) (Be (wAt V (t-16+14))):Nat):Int)=(wAt V t:Nat):=by
       rw [hV,Bh B t ag hlt,show t-16+0=t-16 by omega,show t-16+1=t-15 by omega,show t-16+9=t-7 by omega,show t-16+14=t-2 by omega]
      apply wp_skip
      refine hK28 _ _ ?_
      apply wp_seq_k; intro K42 hK42
      apply wp_block
      apply wp_seq_k; intro K43 hK43
      refine wS hF fun K44 hK44=>vX O<|vV O (aJ O O O O (zH ag))<|vE hK44<|vT1 O<|wT fun K45 hK45=>vX O<|vV O (bH O O O (xA 1 1 t rfl hlt ae))<|vV O (gq O O O ae (xB 1 1 t rfl))<|vV O (bY O QY tX rfl rfl _ O (Nat.mod_lt _ ae) (ad1 _ _) (rfl:(none:Option Nat)=none))<|vV O (aZ O hAr O 1 O (rY t V 1 h16 hlt ae) jG)<|vX O<|vE hK45<|wT fun K46 hK46=>vX O<|vV O (bH O O O (xA 14 14 t rfl hlt ae))<|vV O (gq O O O ae (xB 14 14 t rfl))<|vV O (bY O QY tX rfl rfl _ O (Nat.mod_lt _ ae) (ad1 _ _) (rfl:(none:Option Nat)=none))<|vV O (aZ O hAr O 1 O (rY t V 14 h16 hlt ae) jG)<|vX O<|vE hK46<|wT fun K47 hK47=>vX O fun a hF=>?_
      refine ax O (fun K hK=>ay hF O ae oH rfl rfl ?_)
      with_reducible refine (eY _ 7 7 O hx15 ae ae _).mono ?_
      rintro e' w' ⟨rfl,rfl⟩
      refine ⟨_,rfl,fun a hF=>hK _ _ ?_⟩
      refine vR hF<|vX O fun a hF=>?_
      refine ax O (fun K hK=>ay hF O ae oH rfl rfl ?_)
      with_reducible refine (eY _ 18 18 rfl hx15 ae ae _).mono ?_
      rintro e' w' ⟨rfl,rfl⟩
      refine ⟨_,rfl,fun a hF=>hK _ _ ?_⟩
      refine vR hF<|vV O (kE O O O O)<|vX O<|vV O (mO O O O ae (GR _))<|vV O (kE O O O (GN _ hx15))<|vX O<|vE hK47<|wT fun K48 hK48=>vX O fun a hF=>?_
      refine ax O (fun K hK=>ay hF O ae oH rfl rfl ?_)
      with_reducible refine (eY _ 17 17 rfl hx2 ae ae _).mono ?_
      rintro e' w' ⟨rfl,rfl⟩
      refine ⟨_,rfl,fun a hF=>hK _ _ ?_⟩
      refine vR hF<|vX O fun a hF=>?_
      refine ax O (fun K hK=>ay hF O ae oH rfl rfl ?_)
      with_reducible refine (eY _ 19 19 rfl hx2 ae ae _).mono ?_
      rintro e' w' ⟨rfl,rfl⟩
      refine ⟨_,rfl,fun a hF=>hK _ _ ?_⟩
      refine vR hF<|vV O (kE O O O O)<|vX O<|vV O (mO O O O ae (Ep _))<|vV O (kE O O O (GM _ hx2))<|vX O<|vE hK48 fun a hF=>?_
      refine aU 17 [17] [0,1,2,3,4,5,6,7,8,9,10,11,12,13,14,15,16,17] (At w [(br,241,wc (dP t S)),(bw,250,wc (fG (max t 16) V)),(bs,241,wc st),(bk,248,wc nums),(bd,29,Z0)]) af af (hAr.drew) ?_
      refine pR hF<|pX O O<|pW O O (fun _=>gq O O O ae (rZ t))<|pX O O<|pW O O (fun _=>gq O O O ae (rZ t))<|pW O O (fun _=>bY O QY tX rfl rfl _ O (Nat.mod_lt _ ae) (ad1 _ _) (rfl:(none:Option Nat)=none))<|pV O O (fun x hx=>aZ O hx O 1 O (show (wc (fG (max t 16) V))[t%16]? = _ from rY t V 0 h16 hlt ae) jG) fun a hF=>?_
      refine pR hF<|pX O O<|pW O O (fun _=>bH O O O (dZ _ _))<|pX O O<|pW O O (fun _=>bH O O O (xA 9 9 t rfl hlt ae))<|pW O O (fun _=>gq O O O ae (xB 9 9 t rfl))<|pW O O (fun _=>bY O QY tX rfl rfl _ O (Nat.mod_lt _ ae) (ad1 _ _) (rfl:(none:Option Nat)=none))<|pV O O (fun x hx=>aZ O hx O 1 O (rY t V 9 h16 hlt ae) jG)<|pW O O (fun _=>bH O O O (dZ _ _))<|pX O O<|pW O O (fun _=>bH O O O ((dZ _ _).trans hvt))<|pW O O (fun _=>bY O QY tX rfl rfl _ O (Nat.mod_lt _ ae) (ad1 _ _) (rfl:(none:Option Nat)=none)) fun a hF=>?_
      refine gG O O O (fun K hK=>dO hF O O hAr.drew rfl rfl 1 O (by rw [bz,kK]; exact Nat.mod_lt _ ae) rfl tX (fun w11 hAw=>hK _ _ (fun h=>absurd h ae) ?_))
      replace hAw:At w [(br,241,wc (dP t S)),(bw,250,wc (fG (max (t+1) 16) V)),(bs,241,wc st),(bk,248,wc nums),(bd,29,Z0)] w11:=by rw [← Ey t V h16 hlt]; exact hAw
      refine bP ?_
      replace hF:=hF.keep [11,0,2,3,4,5,7,8,10] rfl
      refine hK43 _ _ ?_
      refine wS hF fun K49 hK49=>vX O<|vV O (dE O O O (ik 64 64 t rfl hlt ae))<|vV O (gq O O O ae (iq 64 64 t rfl hlt ae))<|vV O (bY O QX tX rfl rfl _ O (Nat.mod_lt _ ae) (ad1 _ _) (rfl:(none:Option Nat)=none))<|vV O (aZ O hAw O 0 O (show (wc (dP t S))[(64-t)%8]? = some (.int .u32 (S.a:Nat)) from iP t S 64 0 O hlt ae) jG) fun a hF=>?_
      refine vR hF<|vX O<|vE hK49<|wT fun K50 hK50=>vX O<|vV O (dE O O O (ik 68 68 t rfl hlt ae))<|vV O (gq O O O ae (iq 68 68 t rfl hlt ae))<|vV O (bY O QX tX rfl rfl _ O (Nat.mod_lt _ ae) (ad1 _ _) (rfl:(none:Option Nat)=none))<|vV O (aZ O hAw O 0 O (show (wc (dP t S))[(68-t)%8]? = some (.int .u32 (S.e:Nat)) from iP t S 68 4 O hlt ae) jG) fun a hF=>?_
      refine vR hF<|vX O<|vE hK50<|wT fun K51 hK51=>vX O<|vV O (dE O O O (ik 69 69 t rfl hlt ae))<|vV O (gq O O O ae (iq 69 69 t rfl hlt ae))<|vV O (bY O QX tX rfl rfl _ O (Nat.mod_lt _ ae) (ad1 _ _) (rfl:(none:Option Nat)=none))<|vV O (aZ O hAw O 0 O (show (wc (dP t S))[(69-t)%8]? = some (.int .u32 (S.f:Nat)) from iP t S 69 5 O hlt ae) jG) fun a hF=>?_
      refine vR hF<|vX O<|vE hK51<|wT fun K52 hK52=>vX O<|vV O (dE O O O (ik 70 70 t rfl hlt ae))<|vV O (gq O O O ae (iq 70 70 t rfl hlt ae))<|vV O (bY O QX tX rfl rfl _ O (Nat.mod_lt _ ae) (ad1 _ _) (rfl:(none:Option Nat)=none))<|vV O (aZ O hAw O 0 O (show (wc (dP t S))[(70-t)%8]? = some (.int .u32 (S.g:Nat)) from iP t S 70 6 O hlt ae) jG) fun a hF=>?_
      refine vR hF<|vX O<|vE hK52<|wT fun K53 hK53=>vX O<|vV O (dE O O O (ik 71 71 t rfl hlt ae))<|vV O (gq O O O ae (iq 71 71 t rfl hlt ae))<|vX O fun a hF=>?_
      refine aK ?_
      replace hF:=hF.keep [11,0,2,3,4,5,7,8,10,14,15,16,17,18] rfl
      refine hK53 _ _ ?_
      apply wp_seq_k; intro K54 hK54
      refine aU 29 [4,6,9,29] [0,1,2,3,5,8,12,13,14,15,16,17,18,20,21,22,24,25,26,27,4,6,7,9,10,11,19,23,28,29] (At w [(br,241,wc (dP t S)),(bw,250,wc (fG (max (t+1) 16) V)),(bs,241,wc st),(bk,248,wc nums),(bd,29,Z0)]) af af (hAw.drew) ?_
      refine pR hF<|pX O O<|pW O O (fun _=>bY O QX tX rfl rfl _ O (Nat.mod_lt _ ae) (ad1 _ _) (rfl:(none:Option Nat)=none))<|pV O O (fun x hx=>aZ O hx O 0 O (show (wc (dP t S))[(71-t)%8]? = some (.int .u32 (S.h:Nat)) from iP t S 71 7 O hlt ae) jG) fun a hF=>?_
      refine pR hF<|pX O O<|pX O O<|pX O O<|pX O O<|pX O O<|pX O O<|pX O O<|pW O O (fun _=>kE O O O O)<|pW O O (fun _=>vO O O O O)<|pW O O (fun _=>kE O O O (Df _ _ _ he hf hg))<|pX O O<|pW O O (fun _=>bY O QW tX rfl rfl t rfl ag (ad1 _ _) (rfl:(none:Option Nat)=none))<|pV O O (fun x hx=>aZ O hx O 3 O (show (wc nums)[t]? = some (.int .u32 (wAt ks t:Nat)) by rw [ny (by rw [nums_length]; omega),Dn t hlt]) jG) fun a hF=>?_
      refine pR hF<|pX O O<|pW O O (fun _=>gq O O O ae (rZ t))<|pW O O (fun _=>bY O QY tX rfl rfl _ O (Nat.mod_lt _ ae) (ad1 _ _) (rfl:(none:Option Nat)=none))<|pV O O (fun x hx=>aZ O hx O 1 O (ww t V hlt) jG) fun a hF=>?_
      refine gG O O O (fun K hK=>ay hF O ae oH rfl rfl ?_)
      with_reducible refine (eY _ 6 6 O he ae ae _).mono ?_
      rintro e' w' ⟨rfl,rfl⟩
      refine ⟨_,rfl,fun a hF=>hK _ _ (fun _=>hAw.drew) ?_⟩
      refine gG O O O (fun K hK=>ay hF O ae oH rfl rfl ?_)
      with_reducible refine (eY _ 11 11 rfl he ae ae _).mono ?_
      rintro e' w' ⟨rfl,rfl⟩
      refine ⟨_,rfl,fun a hF=>hK _ _ (fun _=>hAw.drew) ?_⟩
      refine pR hF<|pW O O (fun _=>kE O O O O) fun a hF=>?_
      refine gG O O O (fun K hK=>ay hF O ae oH rfl rfl ?_)
      with_reducible refine (eY _ 25 25 rfl he ae ae _).mono ?_
      rintro e' w' ⟨rfl,rfl⟩
      refine ⟨_,rfl,fun a hF=>hK _ _ (fun _=>hAw.drew) ?_⟩
      refine pR hF<|pW O O (fun _=>kE O O O (AO _ he))<|pW O O (fun _=>bH O O O (dZ _ _))<|pW O O (fun _=>bH O O O (dZ _ _))<|pW O O (fun _=>bH O O O (dZ _ _))<|pW O O (fun _=>bH O O O (dZ _ _)) fun a hF=>?_
      refine gu hF O O O O ae _ (jW O O) (fun h=>absurd h ae) (fun a hF=>?_)
      refine bP ?_
      have hA11:=hAw.drew
      refine hK54 _ _ ?_
      refine wS hF fun K55 hK55=>vX O<|vV O (dE O O O (ik 65 65 t rfl hlt ae))<|vV O (gq O O O ae (iq 65 65 t rfl hlt ae))<|vV O (bY O QX tX rfl rfl _ O (Nat.mod_lt _ ae) (ad1 _ _) (rfl:(none:Option Nat)=none))<|vV O (aZ O hA11 O 0 O (show (wc (dP t S))[(65-t)%8]? = some (.int .u32 (S.b:Nat)) from iP t S 65 1 O hlt ae) jG) fun a hF=>?_
      refine vR hF<|vX O<|vE hK55<|wT fun K56 hK56=>vX O<|vV O (dE O O O (ik 66 66 t rfl hlt ae))<|vV O (gq O O O ae (iq 66 66 t rfl hlt ae))<|vV O (bY O QX tX rfl rfl _ O (Nat.mod_lt _ ae) (ad1 _ _) (rfl:(none:Option Nat)=none))<|vV O (aZ O hA11 O 0 O (show (wc (dP t S))[(66-t)%8]? = some (.int .u32 (S.c:Nat)) from iP t S 66 2 O hlt ae) jG) fun a hF=>?_
      refine vR hF<|vX O<|vE hK56<|wT fun K57 hK57=>vX O<|vV O (dE O O O (ik 67 67 t rfl hlt ae))<|vV O (gq O O O ae (iq 67 67 t rfl hlt ae))<|vX O<|vV O (dE O O O (ik 67 67 t rfl hlt ae))<|vV O (gq O O O ae (iq 67 67 t rfl hlt ae))<|vV O (bY O QX tX rfl rfl _ O (Nat.mod_lt _ ae) (ad1 _ _) (rfl:(none:Option Nat)=none))<|vV O (aZ O hA11 O 0 O (show (wc (dP t S))[(67-t)%8]? = some (.int .u32 (S.d:Nat)) from iP t S 67 3 O hlt ae) jG) fun a hF=>?_
      refine vR hF<|vX O<|vV O (bH O O O (dZ _ _))<|vV O (bY O QX tX rfl rfl _ O (Nat.mod_lt _ ae) (ad1 _ _) (rfl:(none:Option Nat)=none)) fun a hF=>?_
      refine ax O (fun K hK=>dO hF O O hA11 O O 0 O (by rw [bz,gK]; exact Nat.mod_lt _ ae) rfl tX (fun w12 hA12=>hK _ _ ?_))
      refine aK<|hK57 _ _ ?_
      refine wp_region_lit ?_
      refine vR hF<|vX O<|vX O<|vX O fun a hF=>?_
      refine ax O (fun K hK=>ay hF O ae oH rfl rfl ?_)
      with_reducible refine (eY _ 2 2 O ha ae ae _).mono ?_
      rintro e' w' ⟨rfl,rfl⟩
      refine ⟨_,rfl,fun a hF=>hK _ _ ?_⟩
      refine vR hF<|vX O fun a hF=>?_
      refine ax O (fun K hK=>ay hF O ae oH rfl rfl ?_)
      with_reducible refine (eY _ 13 13 rfl ha ae ae _).mono ?_
      rintro e' w' ⟨rfl,rfl⟩
      refine ⟨_,rfl,fun a hF=>hK _ _ ?_⟩
      refine vR hF<|vV O (kE O O O O)<|vX O fun a hF=>?_
      refine ax O (fun K hK=>ay hF O ae oH rfl rfl ?_)
      with_reducible refine (eY _ 22 22 rfl ha ae ae _).mono ?_
      rintro e' w' ⟨rfl,rfl⟩
      refine ⟨_,rfl,fun a hF=>hK _ _ ?_⟩
      refine vR hF<|vV O (kE O O O (AP _ ha))<|vV O (bH O O O (dZ _ _))<|vX O<|vX O<|vV O (vO O O O O)<|vX O<|vX O<|vX O<|vV O (wY O O O O)<|vV O (vO O O O O)<|vV O (wY O O O (yY _ _ _ ha hb hc))<|vV O (bH O O O (dZ _ _))<|vV O (bY O QX tX rfl rfl _ O (Nat.mod_lt _ ae) (ad1 _ _) (rfl:(none:Option Nat)=none)) fun a hF=>?_
      refine ax O (fun K hK=>dO hF O O hA12 O O 0 O (by rw [List.length_set,bz,gK]; exact Nat.mod_lt _ ae) rfl tX (fun w13 hA13=>hK _ _ ?_))
      replace hA13:At w [(br,241,wc (dP (t+1) (rounds V (St.of st) (t+1)))),(bw,250,wc (fG (max (t+1) 16) V)),(bs,241,wc st),(bk,248,wc nums),(bd,29,Z0)] w13:=by rw [← hN,← wz t S _ _ hlt]; exact hA13
      refine aK<|hK42 _ _ ?_
      refine wp_region_lit ?_
      refine vR hF<|vX O<|vV O (bH O O O (Qu _ ag))<|vX O fun a hF=>?_
      refine aK ?_
      exact ⟨t+1,ag,ag,hF.keep [11,0,2,3,4,5,7,8,10] rfl,hA13⟩
    ·obtain rfl:t=64:=by omega
     obtain ⟨R,hR⟩:∃ R,R=(rounds V (St.of st) 64).list:=⟨_,rfl⟩
     have hRl:R.length=8:=by rw [hR]; rfl
     obtain ⟨W,hW⟩:∃ W,W=fG (max 64 16) V:=⟨_,rfl⟩
     have hCe:cur st R 8=blocks (j+1) init8 P:=by rw [DR,← hC,hR,hV]; rfl
     replace hAr:At w [(br,241,wc R),(bw,250,wc W),(bs,241,wc (cur st R 0)),(bk,248,wc nums),(bd,29,Z0)] wr:=by rw [Ad st R hsl,hR,hW,← Bl]; exact hAr
     apply wp_seq_k; intro K58 hK58
     refine wS hF fun K59 hK59=>vX O<|vV O (aJ O O O O (dm ag))<|vE hK59<|vF1 O fun a hF=>?_
     apply wp_exit
     refine hK26 _ _ ?_
     refine wS hF fun K60 hK60=>vX O<|vE hK60<|wBk fun a hF=>?_
     refine bG (G:=Nat) (fun k a x=>k≤8∧Fr 242 [(22,.int .i64 (k:Int)),(0,.slice A n c),(2,.pointer (some ⟨bd,0,none⟩)),(3,.pointer (some ⟨bk,0,none⟩)),(4,.int .i64 ((64*nb:Nat):Int)),(5,.pointer (some ⟨bs,0,none⟩)),(7,.int .i64 (64*(j:Int))),(10,.pointer (some ⟨br,0,none⟩))] a∧At w [(br,241,wc R),(bw,250,wc W),(bs,241,wc (cur st R k)),(bk,248,wc nums),(bd,29,Z0)] x) (fun k=>8-k) 0 ⟨Qs _,hF.keep [22,0,2,3,4,5,7,10] rfl,hAr⟩ ?_
     clear hF
     rintro k a wr ⟨hk,hF,hAr⟩
     clear ht
     by_cases hlt:k<8
     ·apply wp_seq_k; intro K61 hK61
      refine wS hF fun K62 hK62=>vX O<|vV O (aJ O O O O (dA ag))<|vE hK62<|vT1 O<|wKp hK61<|wQ fun K63 hK63=>wBk fun a hF=>?_
      refine aU 9 [9] [0,1,2,3,4,5,6,7,8,9] (At w [(br,241,wc R),(bw,250,wc W),(bs,241,wc (cur st R k)),(bk,248,wc nums),(bd,29,Z0)]) af af (hAr.drew) ?_
      refine pR hF<|pX O O<|pX O O<|pW O O (fun _=>bY O QX tX rfl rfl k rfl hlt (ad1 _ _) (rfl:(none:Option Nat)=none))<|pV O O (fun x hx=>aZ O hx O 2 O (I8 st R k hlt) jG)<|pX O O<|pW O O (fun _=>bY O QX tX rfl rfl k rfl hlt (ad1 _ _) (rfl:(none:Option Nat)=none))<|pV O O (fun x hx=>aZ O hx O 0 O (ny (by rw [hRl]; exact hlt)) jG) fun a hF=>?_
      refine pR hF<|pW O O (fun _=>bH O O O (dZ _ _))<|pW O O (fun _=>bY O QX tX rfl rfl k rfl hlt (ad1 _ _) (rfl:(none:Option Nat)=none)) fun a hF=>?_
      refine gG O O O (fun K hK=>dO hF O O hAr.drew rfl rfl 2 O (by rw [bz,jQ]; exact hlt) rfl tX (fun w14 hA14=>hK _ _ (fun h=>absurd h ae) ?_))
      replace hA14:At w [(br,241,wc R),(bw,250,wc W),(bs,241,wc (cur st R (k+1))),(bk,248,wc nums),(bd,29,Z0)] w14:=by rw [← Ae st R k hlt]; exact hA14
      refine bP ?_
      refine hK63 _ _ ?_
      refine wp_region_lit ?_
      refine vR hF<|vX O<|vV O (bH O O O (Qu _ ag))<|vX O fun a hF=>?_
      refine aK ?_
      exact ⟨k+1,ag,ag,hF.keep [22,0,2,3,4,5,7,10] rfl,hA14⟩
     ·obtain rfl:k=8:=by omega
      rw [hCe] at hAr
      have hA15:At w [(bs,241,wc (blocks (j+1) init8 P)),(bk,248,wc nums),(bd,29,Z0)] wr:=hAr.drop (List.Sublist.cons _ (List.Sublist.cons _ (List.Sublist.refl _))) (fun r hr hlt'=>by
       simp only [List.mem_cons,List.not_mem_nil,or_false] at hr ⊢
       rcases hr with rfl | rfl | rfl | rfl | rfl
       ·simp only at hlt'; omega
       ·simp only at hlt'; omega
       ·exact .inl rfl
       ·exact .inr (.inl rfl)
       ·exact .inr (.inr rfl))
      apply wp_seq_k; intro K64 hK64
      refine wS hF fun K65 hK65=>vX O<|vV O (aJ O O O O (dm ag))<|vE hK65<|vF1 O fun a hF=>?_
      apply wp_exit
      refine hK16 _ _ ?_
      refine wp_region_lit ?_
      refine vR hF<|vX O<|vV O (bH O O O (show IntKind.i64.wrap (64*(j:Int)+64)=64*((j+1:Nat):Int) by rw [Qu _ ag]; omega)) fun a hF=>?_
      refine vR hF<|vX O fun a hF=>?_
      refine aK ?_
      exact ⟨j+1,ag,ag,hF.keep [7,0,2,3,4,5] rfl,hA15⟩
  ·obtain rfl:nb=j:=by omega
   obtain ⟨st,hst⟩:∃ st,st=blocks nb init8 P:=⟨_,rfl⟩
   have hsl:st.length=8:=by rw [hst]; exact bi _ _ _ rfl
   have hSha:ob st 32=sha l:=by rw [show (32:Nat)=4*8 from rfl,Hy st hsl,Bg,hst,hP,← hn,← hwh,Nat.mul_div_cancel_left _ ae]
   rw [← hst] at hAr
   apply wp_seq_k; intro K66 hK66
   refine wS hF fun K67 hK67=>vX O<|vX O<|vV O (aJ O O O O (dm ag))<|vE hK67<|vF1 O fun a hF=>?_
   apply wp_exit
   refine hK12 _ _ ?_
   refine wp_seq_k fun K68 hK68=>wp_region_lit ?_
   refine ax O (fun K hK=>iT hF O ae rfl hAr oL (fun bo w16 a hbo hF hA16=>hK _ _ ?_))
   refine aK<|hK68 _ _ ?_
   apply wp_seq_k; intro K69 hK69
   refine wS hF fun K70 hK70=>vX O<|vE hK70<|wBk fun a hF=>?_
   have q5:bs<bo:=by have:=hAr.lt (k:=0) rfl; omega
   refine bG (G:=Nat) (fun i a x=>i≤32∧Fr 242 [(24,.int .i64 (i:Int)),(0,.slice A n c),(2,.pointer (some ⟨bd,0,none⟩)),(3,.pointer (some ⟨bk,0,none⟩)),(4,.int .i64 ((64*nb:Nat):Int)),(5,.pointer (some ⟨bs,0,none⟩)),(23,.pointer (some ⟨bo,0,none⟩))] a∧At w [(bo,29,dc (ob st i)),(bs,241,wc st),(bk,248,wc nums),(bd,29,Z0)] x) (fun i=>32-i) 0 ⟨Qs _,hF.keep [24,0,2,3,4,5,23] rfl,hA16⟩ ?_
   clear hF
   rintro i a wr ⟨hi,hF,hAr⟩
   by_cases hlt:i<32
   ·apply wp_seq_k; intro K71 hK71
    refine wS hF fun K72 hK72=>vX O<|vV O (aJ O O O O (dA ag))<|vE hK72<|vT1 O<|wKp hK71<|wQ fun K73 hK73=>wBk fun a hF=>?_
    refine wp_region_lit ?_
    refine vR hF<|vX O<|vX O<|vV O (CS O O O ae (yj i ag))<|vV O (bY O QX tX rfl rfl (i/4) rfl ag (ad1 _ _) (rfl:(none:Option Nat)=none))<|vV O (aZ O hAr O 1 O (ny (by rw [hsl]; omega)) jG) fun a hF=>?_
    refine vR hF<|vX O<|vV O (gq O O O ae (Ia i))<|vV O (sK O O O (Qu _ ag))<|vV O (dE O O O (Qu _ ag))<|vV O (bQ O QD Tryz.underlying38 O (show IntKind.u64.wrap (24-8*((i%4:Nat):Int))=24-8*((i%4:Nat):Int) by rw [IntKind.wrap_u64]; omega)) fun a hF=>?_
    refine vR hF<|vV O (mO O O O ag rfl)<|vV O (bQ O QT QJ O (KT _ _ (Nat.mod_lt _ ae)))<|vV O (bY O QA lW rfl rfl i rfl hlt (ad1 _ _) (rfl:(none:Option Nat)=none)) fun a hF=>?_
    refine ax O (fun K hK=>dO hF O O hAr O O 0 O (by rw [aN,qJ st hsl i hi]; exact hlt) rfl lW (fun w17 hA17=>hK _ _ ?_))
    replace hA17:At w [(bo,29,dc (ob st (i+1))),(bs,241,wc st),(bk,248,wc nums),(bd,29,Z0)] w17:=by rw [← Ou st hsl i hlt]; exact hA17
    refine aK<|hK73 _ _ ?_
    refine wp_region_lit ?_
    refine vR hF<|vX O<|vV O (bH O O O (Qu _ ag))<|vX O fun a hF=>?_
    refine aK ?_
    exact ⟨i+1,ag,ag,hF.keep [24,0,2,3,4,5,23] rfl,hA17⟩
   ·obtain rfl:i=32:=by omega
    rw [hSha] at hAr
    apply wp_seq_k; intro K74 hK74
    refine wS hF fun K75 hK75=>vX O<|vV O (aJ O O O O (dm ag))<|vE hK75<|vF1 O fun a hF=>?_
    apply wp_exit
    refine hK69 _ _ ?_
    refine wS hF fun K76 hK76=>vV O (lF O hAr O 0 O Dc (by rw [aN,fF]; decide) (by rw [List.drop_zero,Qz (by rw [aN,fF]; exact Qw _)])) fun a hF=>?_
    refine ax O (fun K hK=>jk hF O O hAr O O 3 O (by rw [hZl,aN,fF]) (iR _) (by rw [Bd,hZl]) (fun w18 hA18=>hK _ _ ?_))
    replace hA18:At w [(bo,29,dc (sha l)),(bs,241,wc st),(bk,248,wc nums),(bd,29,dc (sha l))] w18:=hA18
    refine aK<|hK76 _ _ ?_
    apply wp_ret
    refine nT hF Tryz.results167 hA18 O 3 O (by rw [aN,fF]; exact Dc) ?_
    refine ⟨rfl,hA18.clear (fun r hr=>?_)⟩
    simp only [List.mem_cons,List.not_mem_nil,or_false] at hr
    rcases hr with rfl | rfl | rfl | rfl <;> simp only <;> omega
end Go.Proofs.YtepbmdlgdaedpaaGreatDoor
