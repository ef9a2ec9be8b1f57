/- The walk of the reference's Sum: SHA-256 in rings. -/
import Derived.Test.YtepbmdlgdaedpaaGreatDoorRefNum
import Derived.Test.YtepbmdlgdaedpaaGreatDoorVc
/- The walk of the reference's Sum: SHA-256 in rings. -/
namespace Go.Proofs.YtepbmdlgdaedpaaGreatDoor
open Go.RowKit Go.Dk
theorem FT:bQ Tryz.prog 241 (.agg (wc (List.replicate 8 0)).toArray):=by unfold bQ; kernel_rfl
theorem MX:bQ Tryz.prog 250 (.agg (wc (List.replicate 16 0)).toArray):=by unfold bQ; kernel_rfl
theorem Nw:(Tryz.prog.info? 241).map (·.size)=some 8:=af
theorem JF (l:List Nat) (i n:Nat) (h:i<l.length):(wc (l.take i++List.replicate (n+1) 0)).set i (.int .u32 (wAt l i:Nat))=wc (l.take (i+1)++List.replicate n 0):=by
 rw [sD]
 congr 1
 have e:l.take (i+1)=l.take i++[wAt l i]:=by
  rw [List.take_succ_eq_append_getElem h]
  congr 2
  unfold wAt
  rw [List.getElem?_eq_getElem h]; rfl
 rw [List.set_append,if_neg (by rw [List.length_take]; omega),List.length_take,show i-min i l.length=0 by omega,e,List.replicate_succ,List.append_assoc]
 rfl
theorem CY (i:Nat) (h:i<64):wAt nums i=wAt ks i:=by
 unfold nums wAt
 rw [List.getElem?_append_left (by exact h)]
theorem EJ (i:Nat):wAt nums (64+i)=wAt init8 i:=by
 unfold nums wAt
 rw [List.getElem?_append_right (by show 64≤64+i; omega)]
 congr 2
 show 64+i-64=i
 omega
theorem Gj (x:Nat) (hx:x<4294967296):bits .xor .u32 (bits .xor .u32 (ed x 7:Nat) (ed x 18:Nat)) ((x:Int)/8)=(AC x:Nat):=by
 rw [show (x:Int)/8=((x/2 ^ 3:Nat):Int) by omega,rE x 7 18 _ hx]; rfl
theorem Gi (x:Nat) (hx:x<4294967296):bits .xor .u32 (bits .xor .u32 (ed x 17:Nat) (ed x 19:Nat)) ((x:Int)/1024)=(AB x:Nat):=by
 rw [show (x:Int)/1024=((x/2 ^ 10:Nat):Int) by omega,rE x 17 19 _ hx]; rfl
theorem Ag (x:Nat) (hx:x<4294967296):bits .xor .u32 (bits .xor .u32 (ed x 6:Nat) (ed x 11:Nat)) (ed x 25:Nat)=(MH x:Nat):=pz x 6 11 25 hx
theorem Ah (x:Nat) (hx:x<4294967296):bits .xor .u32 (bits .xor .u32 (ed x 2:Nat) (ed x 13:Nat)) (ed x 22:Nat)=(JA x:Nat):=pz x 2 13 22 hx
theorem CQ (e f g:Nat) (he:e<4294967296) (hf:f<4294967296) (hg:g<4294967296):bits .xor .u32 (g:Int) (bits .and .u32 (e:Int) (bits .xor .u32 (f:Int) (g:Int)))=(chN e f g:Nat):=by
 have h1:f ^^^ g<2 ^ 32:=Nat.xor_lt_two_pow (n:=32) hf hg
 rw [u32_xor_nat f g hf hg,u32_and_nat e _ he h1,u32_xor_nat g _ hg (Nat.lt_of_le_of_lt Nat.and_le_left he),Pi e f g hg]
theorem yB (a b c:Nat) (ha:a<4294967296) (hb:b<4294967296) (hc:c<4294967296):bits .or .u32 (bits .and .u32 (a:Int) (b:Int)) (bits .and .u32 (c:Int) (bits .or .u32 (a:Int) (b:Int)))=(Bv a b c:Nat):=by
 have h1:a ||| b<2 ^ 32:=Nat.or_lt_two_pow (n:=32) ha hb
 rw [u32_and_nat a b ha hb,u32_or_nat a b ha hb,u32_and_nat c _ hc h1,u32_or_nat _ _ (Nat.lt_of_le_of_lt Nat.and_le_left ha) (Nat.lt_of_le_of_lt Nat.and_le_left hc),NU]
theorem Nu (s:St) (k w:Nat):(s.step k w).e=add32 s.d (s.x k w):=rfl
theorem step_a (s:St) (k w:Nat):(s.step k w).a=add32 (add32 (s.x k w) (JA s.a)) (Bv s.a s.b s.c):=by
 show add32 (s.x k w) s.y=_
 unfold St.y add32; omega
theorem eu (x:Nat) (m:Int) (n:Nat) (hm:m=n) (hx:x<4294967296) (hn:0<n) (h32:n<32) (w:World) :
  Calls Tryz.prog 200 #[.int .u32 x,.int .i64 m] w fun e w'=>e= .returned (.int .u32 (ed x n:Nat))∧w=w':=by
 subst hm; exact Eu x n hx hn h32 w
theorem FK (w:World) (A:Option Addr) (l:List UInt8) (c n i whole bt:Nat) (iv wv:Int) (hiv:iv=i) (hwv:wv=whole) (hn:n=l.length) (hB:Bts w A l) (hl:n<281474976710656) (hw:whole=ji n) (hi:i<whole) (hbt:bt=(bAt (padded l) i).toNat) :
  Calls Tryz.prog 199 #[.slice A n c,.int .i64 iv,.int .i64 wv] w fun e w'=>e= .returned (.int .u8 (bt:Int))∧w=w':=by
 subst hiv hwv hbt
 exact BV w A l c n i whole hn hB hl hw hi
theorem Oq (P:List UInt8) (j i:Nat) (h:i<64):bAt ((P.drop (64*j)).take 64) i=bAt P (64*j+i):=by rw [Ac h,Ad]
theorem gV (N:Int) (n t:Nat) (hN:N=n) (ht:t<64) (hn:64≤n):(N-t).tmod 8=(((n-t)%8:Nat):Int):=by
 subst hN; rw [Int.tmod_eq_emod_of_nonneg ag]; omega
theorem gU (N:Int) (n t:Nat) (hN:N=n) (ht:t<64) (hn:n<100):IntKind.i64.wrap (N-t)=N-t:=by subst hN; exact PX _ ag
theorem wU (N:Int) (n t:Nat) (hN:N=n):((t:Int)+N).tmod 16=(((t+n)%16:Nat):Int):=by
 subst hN; rw [Int.tmod_eq_emod_of_nonneg ag]; omega
theorem rH (t:Nat):(t:Int).tmod 16=((t%16:Nat):Int):=by rw [Int.tmod_eq_emod_of_nonneg ag]; omega
theorem wR (N:Int) (n t:Nat) (hN:N=n) (ht:t<64) (hn:n<100):IntKind.i64.wrap ((t:Int)+N)=(t:Int)+N:=by subst hN; exact PX _ ag
theorem iG (t:Nat) (s:St) (n j:Nat) (hn:n=64+j) (ht:t<64) (hj:j<8):(wc (dJ t s))[(n-t)%8]? = some (.int .u32 (wAt s.list j:Nat)):=by
 subst hn
 rw [mG (by rw [gm]; exact Nat.mod_lt _ ae),AV t s j ag hj]
theorem rG (t:Nat) (V:List Nat) (j:Nat) (h16:¬ t<16) (ht:t<64) (hj:j<16):(wc (fA (max t 16) V))[(t+j)%16]? = some (.int .u32 (wAt V (t-16+j):Nat)):=by
 rw [mG (by rw [ku]; exact Nat.mod_lt _ ae),show max t 16=t by omega,AQ t V j ag ag hj]
theorem vz (t:Nat) (V:List Nat) (ht:t<64):(wc (fA (max (t+1) 16) V))[t%16]? = some (.int .u32 (wAt V t:Nat)):=by
 rw [mG (by rw [ku]; exact Nat.mod_lt _ ae)]
 by_cases h16:t<16
 ·rw [show max (t+1) 16=16 by omega,yD t V h16]
 ·rw [show max (t+1) 16=t+1 by omega,Es t V ag ht]
theorem Eo (t:Nat) (V:List Nat) (h16:¬ t<16) (ht:t<64):(wc (fA (max t 16) V)).set (t%16) (.int .u32 (wAt V t:Nat))=wc (fA (max (t+1) 16) V):=by
 rw [sD,show max t 16=t by omega,show max (t+1) 16=t+1 by omega,Ep t V ag ht _ rfl]
theorem vF (t:Nat) (s:St) (k w:Nat) (ht:t<64):((wc (dJ t s)).set ((67-t)%8) (.int .u32 (add32 s.d (s.x k w):Nat))).set ((71-t)%8) (.int .u32 (add32 (add32 (s.x k w) (JA s.a)) (Bv s.a s.b s.c):Nat))=wc (dJ (t+1) (s.step k w)):=by
 rw [sD,sD,Et t s _ _ k w ht (Nu s k w).symm (step_a s k w).symm]
theorem F6 (B:List UInt8) (i:Nat) (hi:i<64):(wc (iJ B i)).set (i/4) (.int .u32 ((wAt (iJ B i) (i/4)*256%4294967296 ||| (bAt B i).toNat:Nat):Int))=wc (iJ B (i+1)):=by
 rw [sD,D9 B i _ hi rfl]
theorem Gm (p:Nat):IntKind.u32.wrap ((p:Int)*2 ^ min (8:Int).toNat IntKind.u32.bits)=((p*256%4294967296:Nat):Int):=by
 rw [IntKind.wrap_u32',show min (8:Int).toNat IntKind.u32.bits=8 by decide]; omega
theorem KA (p:Nat) (b:UInt8):bits .or .u32 ((p*256%4294967296:Nat):Int) (b.toNat:Int)=((p*256%4294967296 ||| b.toNat:Nat):Int):=by
 have:=b.toNat_lt
 exact u32_or_nat _ _ (Nat.mod_lt _ ae) ag
theorem Iz (i:Nat):IntKind.i64.wrap ((i:Int).tdiv 4)=((i/4:Nat):Int)∨64≤i:=by
 by_cases h:i<64
 ·left
  rw [Int.tdiv_eq_ediv_of_nonneg ag,PX _ ag]; omega
 ·right; omega
theorem xI (i:Nat) (h:i<64):IntKind.i64.wrap ((i:Int).tdiv 4)=((i/4:Nat):Int):=(Iz i).resolve_right ag
theorem G8 (i:Nat):(i:Int).tmod 4=((i%4:Nat):Int):=by rw [Int.tmod_eq_emod_of_nonneg ag]; omega
theorem Gl (x:Nat):(x:Int).fdiv (2 ^ min (3:Int).toNat IntKind.u32.bits)=(x:Int)/8:=by
 rw [show min (3:Int).toNat IntKind.u32.bits=3 by decide,Int.fdiv_eq_ediv_of_nonneg _ ae]; rfl
theorem Eh (x:Nat):(x:Int).fdiv (2 ^ min (10:Int).toNat IntKind.u32.bits)=(x:Int)/1024:=by
 rw [show min (10:Int).toNat IntKind.u32.bits=10 by decide,Int.fdiv_eq_ediv_of_nonneg _ ae]; rfl
theorem Kw (v m:Nat) (hm:m<4):IntKind.u8.wrap ((v:Int).fdiv (2 ^ min (24-8*(m:Int)).toNat IntKind.u32.bits))=((v/256 ^ (3-m):Nat)%256:Int):=by
 have h1:min (24-8*(m:Int)).toNat IntKind.u32.bits=8*(3-m):=by
  rw [show IntKind.u32.bits=32 from rfl]; omega
 rw [h1,Int.fdiv_eq_ediv_of_nonneg _ (Int.pow_nonneg ae),IntKind.wrap_u8]
 exact wP v (3-m) (8*(3-m)) O
theorem xU (b:UInt8):IntKind.u32.wrap (b.toNat:Int)=(b.toNat:Int):=by rw [IntKind.wrap_u32']; have:=b.toNat_lt; omega
theorem NR (st:List Nat) (h:st.length=8) (i:Nat) (hi:i<32):(dc (ob st i)).set i (.int .u8 ((wAt st (i/4)/256 ^ (3-i%4):Nat)%256:Int))=dc (ob st (i+1)):=by
 have h0:=CX st h (i/4) (i%4) ag ag
 rw [← Nat.add_assoc,show 4*(i/4)+i%4=i by omega] at h0
 exact h0
theorem yE (V st:List Nat) (h:st.length=8):dJ 0 (rounds V (St.of st) 0)=st:=by
 apply kU
 ·rw [gm,h]
 ·intro i hi
  have hi8:i<8:=by omega
  rw [mP _ _ _ hi8,show (i+0)%8=i by omega]
  have:i=0∨i=1∨i=2∨i=3∨i=4∨i=5∨i=6∨i=7:=by omega
  rcases this with rfl | rfl | rfl | rfl | rfl | rfl | rfl | rfl <;> rfl
theorem AU (S:St):dJ 64 S=S.list:=by
 apply kU
 ·rw [gm]; rfl
 ·intro i hi
  have hi8:i<8:=hi
  rw [mP _ _ _ hi8,show (i+64)%8=i by omega]
theorem jr:bu Tryz.prog 150=true:=af
theorem Pn:isRow Tryz.prog 241 8=true:=af
theorem PL:aP Tryz.prog 198:=⟨_,Tryz.func198,af,af⟩
theorem PK:aP Tryz.prog 199:=⟨_,Tryz.func199,af,af⟩
theorem nM:aP Tryz.prog 200:=⟨_,Tryz.func200,af,af⟩
set_option maxRecDepth 100000 in
set_option maxHeartbeats 2000000 in
theorem AZ (w:World) (A:Option Addr) (l:List UInt8) (c n:Nat) (hn:n=l.length) (hB:Bts w A l) (hl:n<140737488355328) :
  Calls Tryz.prog 167 #[.slice A n c] w fun e w'=>e= .returned (.agg (dc (sha l)).toArray)∧At w [] w':=by
 obtain ⟨P,hP⟩:∃ P,P=padded l:=⟨_,rfl⟩
 obtain ⟨nb,hnb⟩:∃ k,k=(n+72)/64:=⟨_,rfl⟩
 have hwh:64*nb=ji n:=by rw [hnb]; unfold ji; omega
 have hwb:64*nb≤n+72:=by omega
 obtain ⟨Z0,hZ0⟩:∃ Z,Z=dc (List.replicate 32 0):=⟨_,rfl⟩
 have hZl:Z0.length=32:=by rw [hZ0]; rfl
 have hNl:(wc nums).length=72:=by rw [bf,nums_length]
 have hA0:=At.refl w
 refine aQ Tryz.func167 O Tryz.ntmps167 ai (fun a hF=>?_)
 refine wp_seq_k fun K1 hK1=>wp_region_lit ?_
 refine az O (fun K hK=>iI hF O ae rfl hA0 nU (fun bd w1 a hbd hF hA1=>hK _ _ ?_))
 replace hA1:At w [(bd,29,Z0)] w1:=by rw [hZ0]; exact hA1
 refine aG<|hK1 _ _ ?_
 refine wp_seq_k fun K2 hK2=>wp_region_lit ?_
 refine az O (fun K hK=>ay hF O ae PL rfl rfl ?_)
 with_reducible refine (yM w1).mono ?_
 rintro e' w2 ⟨rfl,hc2⟩
 refine ⟨_,rfl,fun a hF=>hK _ _ ?_⟩
 have hA2:=hA1.then0 hc2
 clear hc2
 refine az O (fun K hK=>iI hF O ae rfl hA2 vJ (fun bk w3 a hbk hF hA3=>hK _ _ ?_))
 refine az O (fun K hK=>kQ hF O O hA3 O O 0 O (by rw [hNl,bf]; decide) (fun v hv=>Ak _ v (by simpa using hv)) (by rw [vK,hNl]) (fun w4 hA4=>hK _ _ ?_))
 replace hA4:At w [(bk,248,wc nums),(bd,29,Z0)] w4:=by rw [← gZ (wc (List.replicate 72 0)) (wc nums) (by rw [bf,hNl]; rfl)]; exact hA4
 refine aG<|hK2 _ _ ?_
 refine wS hF fun K3 hK3=>vX O<|vV O (aU O PZ O O)<|vV O (bn O O O (PX _ ag))<|vV O (Ci O O O ae (show IntKind.i64.wrap ((((n:Int)+72).tdiv 64))=(nb:Int) by rw [Int.tdiv_eq_ediv_of_nonneg ag,PX _ ag]; omega)) fun a hF=>?_
 refine vR hF<|vV O (rW O O O (show IntKind.i64.wrap ((nb:Int)*64)=((64*nb:Nat):Int) by rw [PX _ ag]; omega)) fun a hF=>?_
 refine vR hF<|vX O<|vE hK3 fun a hF=>?_
 refine wp_seq_k fun K4 hK4=>wp_region_lit ?_
 refine az O (fun K hK=>iI hF O ae rfl hA4 FT (fun bs w5 a hbs hF hA5=>hK _ _ ?_))
 refine aG<|hK4 _ _ ?_
 apply wp_seq_k; intro K5 hK5
 refine wS hF fun K6 hK6=>vX O<|vE hK6<|wBk fun a hF=>?_
 have q0:w.heap.size≤bd:=hbd
 have q1:bd<bk:=by have:=hA2.lt (k:=0) rfl; omega
 have q2:bk<bs:=by have:=hA4.lt (k:=0) rfl; omega
 refine bH (G:=Nat) (fun i a x=>i≤8∧Fr 242 [(6,.int .i64 (i:Int)),(0,.slice A n c),(2,.pointer (some ⟨bd,0,none⟩)),(3,.pointer (some ⟨bk,0,none⟩)),(4,.int .i64 ((64*nb:Nat):Int)),(5,.pointer (some ⟨bs,0,none⟩))] a∧At w [(bs,241,wc (init8.take i++List.replicate (8-i) 0)),(bk,248,wc nums),(bd,29,Z0)] x) (fun i=>8-i) 0 ⟨PU _,hF.keep [6,0,2,3,4,5] rfl,hA5⟩ ?_
 clear hF
 rintro i a wr ⟨hi,hF,hAr⟩
 clear hA0 hA1 hA2 hA3 hA4 hA5
 by_cases hlt:i<8
 ·apply wp_seq_k; intro K7 hK7
  refine wS hF fun K8 hK8=>vX O<|vV O (aB O O O O (dB ag))<|vE hK8<|vT1 O<|wKp hK7<|wQ fun K9 hK9=>wBk fun a hF=>?_
  refine wp_region_lit ?_
  refine vR hF<|vX O<|vX O<|vV O (bn O O O (PX _ ag))<|vV O (bT O Qp sS rfl rfl (64+i) ag ag (ad1 _ _) (rfl:(none:Option Nat)=none))<|vV O (aW O hAr O 1 O (show (wc nums)[64+i]? = some (.int .u32 (wAt init8 i:Nat)) by rw [mG (by rw [nums_length]; omega),EJ]) jr) fun a hF=>?_
  refine vR hF<|vV O (bT O Qq sS rfl rfl i rfl hlt (ad1 _ _) (rfl:(none:Option Nat)=none)) fun a hF=>?_
  refine az O (fun K hK=>dI hF O O hAr O O 0 O (by rw [bf,List.length_append,List.length_take,List.length_replicate,oQ]; omega) rfl sS (fun w6 hA6=>hK _ _ ?_))
  replace hA6:At w [(bs,241,wc (init8.take (i+1)++List.replicate (8-(i+1)) 0)),(bk,248,wc nums),(bd,29,Z0)] w6:=by
    have h:=JF init8 i (8-(i+1)) (by rw [oQ]; exact hlt)
    rw [show 8-(i+1)+1=8-i by omega] at h
    rw [← h]; exact hA6
  refine aG<|hK9 _ _ ?_
  refine wp_region_lit ?_
  refine vR hF<|vX O<|vV O (bn O O O (PX _ ag))<|vX O fun a hF=>?_
  refine aG ?_
  exact ⟨i+1,ag,ag,hF.keep [6,0,2,3,4,5] rfl,hA6⟩
 ·obtain rfl:i=8:=by omega
  apply wp_seq_k; intro K10 hK10
  refine wS hF fun K11 hK11=>vX O<|vV O (aB O O O O (dA ag))<|vE hK11<|vF1 O fun a hF=>?_
  replace hAr:At w [(bs,241,wc (blocks 0 init8 P)),(bk,248,wc nums),(bd,29,Z0)] wr:=hAr
  apply wp_exit
  refine hK5 _ _ ?_
  apply wp_seq_k; intro K12 hK12
  refine wS hF fun K13 hK13=>vX O<|vE hK13<|wBk fun a hF=>?_
  refine bH (G:=Nat) (fun j a x=>j≤nb∧Fr 242 [(7,.int .i64 (64*(j:Int))),(0,.slice A n c),(2,.pointer (some ⟨bd,0,none⟩)),(3,.pointer (some ⟨bk,0,none⟩)),(4,.int .i64 ((64*nb:Nat):Int)),(5,.pointer (some ⟨bs,0,none⟩))] a∧At w [(bs,241,wc (blocks j init8 P)),(bk,248,wc nums),(bd,29,Z0)] x) (fun j=>nb-j) 0 ⟨PU _,hF.keep [7,0,2,3,4,5] rfl,hAr⟩ ?_
  clear hF
  rintro j a wr ⟨hj,hF,hAr⟩
  clear hi
  by_cases hlt:j<nb
  ·obtain ⟨st,hst⟩:∃ st,st=blocks j init8 P:=⟨_,rfl⟩
   obtain ⟨B,hBk⟩:∃ B,B=(P.drop (64*j)).take 64:=⟨_,rfl⟩
   obtain ⟨V,hV⟩:∃ V,V=sched 48 (words 16 B):=⟨_,rfl⟩
   have hC:compress st B=blocks (j+1) init8 P:=by rw [hst,hBk,ou]
   have hsl:st.length=8:=by rw [hst]; exact aX _ _ _ rfl
   have hslt:∀ x∈st,x<4294967296:=by rw [hst]; exact nK _ _ _ oP
   rw [← hst] at hAr
   apply wp_seq_k; intro K14 hK14
   refine wS hF fun K15 hK15=>vX O<|vX O<|vV O (aB O O O O (dB ag))<|vE hK15<|vT1 O<|wKp hK14<|wQ fun K16 hK16=>wBk fun a hF=>?_
   refine wp_seq_k fun K17 hK17=>wp_region_lit ?_
   refine az O (fun K hK=>iI hF O ae rfl hAr MX (fun bw w7 a hbw hF hA7=>hK _ _ ?_))
   replace hA7:At w [(bw,250,wc (iJ B 0)),(bs,241,wc st),(bk,248,wc nums),(bd,29,Z0)] w7:=by rw [Aj]; exact hA7
   refine aG<|hK17 _ _ ?_
   apply wp_seq_k; intro K18 hK18
   refine wS hF fun K19 hK19=>vX O<|vE hK19<|wBk fun a hF=>?_
   have q3:bs<bw:=by have:=hAr.lt (k:=0) rfl; omega
   refine bH (G:=Nat) (fun i a x=>i≤64∧Fr 242 [(9,.int .i64 (i:Int)),(0,.slice A n c),(2,.pointer (some ⟨bd,0,none⟩)),(3,.pointer (some ⟨bk,0,none⟩)),(4,.int .i64 ((64*nb:Nat):Int)),(5,.pointer (some ⟨bs,0,none⟩)),(7,.int .i64 (64*(j:Int))),(8,.pointer (some ⟨bw,0,none⟩))] a∧At w [(bw,250,wc (iJ B i)),(bs,241,wc st),(bk,248,wc nums),(bd,29,Z0)] x) (fun i=>64-i) 0 ⟨PU _,hF.keep [9,0,2,3,4,5,7,8] rfl,hA7⟩ ?_
   clear hF
   rintro i a wr ⟨hi,hF,hAr⟩
   clear hA7
   by_cases hlt:i<64
   ·have hni:∀ r∈[(bw,250,wc (iJ B i)),(bs,241,wc st),(bk,248,wc nums),(bd,29,Z0)],w.heap.size≤(r:Row).1:=by
     intro r hr; simp only [List.mem_cons,List.not_mem_nil,or_false] at hr; rcases hr with h | h | h | h <;> subst h <;> simp only <;> omega
    have hbu:bAt (padded l) (64*j+i)=bAt B i:=by rw [hBk,Oq _ _ _ hlt,hP]
    apply wp_seq_k; intro K20 hK20
    refine wS hF fun K21 hK21=>vX O<|vV O (aB O O O O (dB ag))<|vE hK21<|vT1 O<|wKp hK20<|wQ fun K22 hK22=>wBk fun a hF=>?_
    refine aT 16 [12,16] [0,1,2,3,4,5,6,7,8,9,10,11,12,13,14,15,16] (At w [(bw,250,wc (iJ B i)),(bs,241,wc st),(bk,248,wc nums),(bd,29,Z0)]) af af (hAr.drew) ?_
    refine pR hF<|pX O O<|pW O O (fun _=>Ci O O O ae (xI i hlt))<|pX O O<|pW O O (fun _=>Ci O O O ae (xI i hlt))<|pW O O (fun _=>bT O Qr sS rfl rfl (i/4) rfl ag (ad1 _ _) (rfl:(none:Option Nat)=none))<|pV O O (fun x hx=>aW O hx O 0 O (mG (l:=iJ B i) (i:=i/4) (by rw [jg]; omega)) jr) fun a hF=>?_
    refine pR hF<|pW O O (fun _=>xP O O O ae (Gm _))<|pX O O<|pX O O<|pX O O<|pW O O (fun _=>bn O O O (PX _ ag))<|pX O O fun a hF=>?_
    refine iE O O O (fun K hK=>ay hF O ae PK rfl rfl ?_)
    with_reducible refine (FK _ A l c n (64*j+i) (64*nb) _ _ _ ag rfl hn (hB.fresh hAr.drew hni) ag hwh ag rfl).mono ?_
    rintro e' w' ⟨rfl,rfl⟩
    refine ⟨_,rfl,fun a hF=>hK _ _ (fun _=>hAr.drew) ?_⟩
    rw [hbu] at hF
    refine pR hF<|pW O O (fun _=>bJ O PW Qm O (xU _))<|pW O O (fun _=>wC O O O (KA _ _))<|pW O O (fun _=>bT O Qr sS rfl rfl (i/4) rfl ag (ad1 _ _) (rfl:(none:Option Nat)=none)) fun a hF=>?_
    refine iE O O O (fun K hK=>dI hF O O hAr.drew rfl rfl 0 O (by rw [bf,jg]; omega) rfl sS (fun w8 hA8=>hK _ _ (fun h=>absurd h ae) ?_))
    replace hA8:At w [(bw,250,wc (iJ B (i+1))),(bs,241,wc st),(bk,248,wc nums),(bd,29,Z0)] w8:=by rw [← F6 B i hlt]; exact hA8
    refine bG ?_
    refine hK22 _ _ ?_
    refine wp_region_lit ?_
    refine vR hF<|vX O<|vV O (bn O O O (PX _ ag))<|vX O fun a hF=>?_
    refine aG ?_
    exact ⟨i+1,ag,ag,hF.keep [9,0,2,3,4,5,7,8] rfl,hA8⟩
   ·obtain rfl:i=64:=by omega
    replace hAr:At w [(bw,250,wc (fA 16 V)),(bs,241,wc st),(bk,248,wc nums),(bd,29,Z0)] wr:=by rw [hV,wH,← Ea]; exact hAr
    apply wp_seq_k; intro K23 hK23
    refine wS hF fun K24 hK24=>vX O<|vV O (aB O O O O (dA ag))<|vE hK24<|vF1 O fun a hF=>?_
    apply wp_exit
    refine hK18 _ _ ?_
    refine wS hF fun K25 hK25=>vV O (kY O hAr O 1 O Pn (by rw [bf,hsl]; decide) (by rw [List.drop_zero,P8 (by rw [bf,hsl]; exact P5 _)])) fun a hF=>?_
    refine az O (fun K hK=>iI hF O ae rfl hAr FT (fun br w9 a hbr hF hA9=>hK _ _ ?_))
    refine az O (fun K hK=>kQ hF O O hA9 O O 0 O (by rw [bf,bf,hsl]; decide) (fun v hv=>Ak _ v (by simpa using hv)) (by rw [Nw,bf,hsl]) (fun w10 hA10=>hK _ _ ?_))
    replace hA10:At w [(br,241,wc st),(bw,250,wc (fA 16 V)),(bs,241,wc st),(bk,248,wc nums),(bd,29,Z0)] w10:=by
      have e:=gZ (wc (List.replicate 8 0)) (wc st) (by rw [bf,bf,hsl]; rfl)
      rw [List.set_cons_zero,e] at hA10
      exact hA10
    refine aG<|hK25 _ _ ?_
    apply wp_seq_k; intro K26 hK26
    refine wS hF fun K27 hK27=>vX O<|vE hK27<|wBk fun a hF=>?_
    have q4:bw<br:=by have:=hAr.lt (k:=0) rfl; omega
    replace hA10:At w [(br,241,wc (dJ 0 (rounds V (St.of st) 0))),(bw,250,wc (fA (max 0 16) V)),(bs,241,wc st),(bk,248,wc nums),(bd,29,Z0)] w10:=by rw [yE V st hsl]; exact hA10
    refine bH (G:=Nat) (fun t a x=>t≤64∧Fr 242 [(11,.int .i64 (t:Int)),(0,.slice A n c),(2,.pointer (some ⟨bd,0,none⟩)),(3,.pointer (some ⟨bk,0,none⟩)),(4,.int .i64 ((64*nb:Nat):Int)),(5,.pointer (some ⟨bs,0,none⟩)),(7,.int .i64 (64*(j:Int))),(8,.pointer (some ⟨bw,0,none⟩)),(10,.pointer (some ⟨br,0,none⟩))] a∧At w [(br,241,wc (dJ t (rounds V (St.of st) t))),(bw,250,wc (fA (max t 16) V)),(bs,241,wc st),(bk,248,wc nums),(bd,29,Z0)] x) (fun t=>64-t) 0 ⟨PU _,hF.keep [11,0,2,3,4,5,7,8,10] rfl,hA10⟩ ?_
    clear hF
    rintro t a wr ⟨ht,hF,hAr⟩
    clear hA9 hA10 hi
    by_cases hlt:t<64
    ·obtain ⟨S,hS⟩:∃ S,S=rounds V (St.of st) t:=⟨_,rfl⟩
     obtain ⟨ha,hb,hc,hd,he,hf,hg,hh⟩:St.ok S:=by rw [hS]; exact vI _ (MQ hslt) t
     have hVlt:∀ k,wAt V k<4294967296:=fun k=>by rw [hV]; exact kD _ (sU _ _ (su _ _)) k
     have hN:S.step (wAt ks t) (wAt V t)=rounds V (St.of st) (t+1):=by rw [hS]; rfl
     rw [← hS] at hAr
     apply wp_seq_k; intro K28 hK28
     refine wS hF fun K29 hK29=>vX O<|vV O (aB O O O O (dB ag))<|vE hK29<|vT1 O fun a hF=>?_
     by_cases h16:t<16
     ·have hAw:At w [(br,241,wc (dJ t S)),(bw,250,wc (fA (max (t+1) 16) V)),(bs,241,wc st),(bk,248,wc nums),(bd,29,Z0)] wr:=by rw [show max (t+1) 16=max t 16 by omega]; exact hAr
      apply wp_skip
      refine hK28 _ _ ?_
      apply wp_seq_k; intro K30 hK30
      apply wp_block
      apply wp_seq_k; intro K31 hK31
      refine wS hF fun K32 hK32=>vX O<|vV O (aB O O O O (vZ ag))<|vE hK32<|vF1 O<|wKp hK31<|wT fun K33 hK33=>vX O<|vV O (dC O O O (gU 64 64 t rfl hlt ae))<|vV O (fP O O O ae (gV 64 64 t rfl hlt ae))<|vV O (bT O Qq sS rfl rfl _ O (Nat.mod_lt _ ae) (ad1 _ _) (rfl:(none:Option Nat)=none))<|vV O (aW O hAw O 0 O (show (wc (dJ t S))[(64-t)%8]? = some (.int .u32 (S.a:Nat)) from iG t S 64 0 O hlt ae) jr) fun a hF=>?_
      refine vR hF<|vX O<|vE hK33<|wT fun K34 hK34=>vX O<|vV O (dC O O O (gU 68 68 t rfl hlt ae))<|vV O (fP O O O ae (gV 68 68 t rfl hlt ae))<|vV O (bT O Qq sS rfl rfl _ O (Nat.mod_lt _ ae) (ad1 _ _) (rfl:(none:Option Nat)=none))<|vV O (aW O hAw O 0 O (show (wc (dJ t S))[(68-t)%8]? = some (.int .u32 (S.e:Nat)) from iG t S 68 4 O hlt ae) jr) fun a hF=>?_
      refine vR hF<|vX O<|vE hK34<|wT fun K35 hK35=>vX O<|vV O (dC O O O (gU 69 69 t rfl hlt ae))<|vV O (fP O O O ae (gV 69 69 t rfl hlt ae))<|vV O (bT O Qq sS rfl rfl _ O (Nat.mod_lt _ ae) (ad1 _ _) (rfl:(none:Option Nat)=none))<|vV O (aW O hAw O 0 O (show (wc (dJ t S))[(69-t)%8]? = some (.int .u32 (S.f:Nat)) from iG t S 69 5 O hlt ae) jr) fun a hF=>?_
      refine vR hF<|vX O<|vE hK35<|wT fun K36 hK36=>vX O<|vV O (dC O O O (gU 70 70 t rfl hlt ae))<|vV O (fP O O O ae (gV 70 70 t rfl hlt ae))<|vV O (bT O Qq sS rfl rfl _ O (Nat.mod_lt _ ae) (ad1 _ _) (rfl:(none:Option Nat)=none))<|vV O (aW O hAw O 0 O (show (wc (dJ t S))[(70-t)%8]? = some (.int .u32 (S.g:Nat)) from iG t S 70 6 O hlt ae) jr) fun a hF=>?_
      refine vR hF<|vX O<|vE hK36<|wT fun K37 hK37=>vX O<|vV O (dC O O O (gU 71 71 t rfl hlt ae))<|vV O (fP O O O ae (gV 71 71 t rfl hlt ae))<|vX O fun a hF=>?_
      refine aG ?_
      replace hF:=hF.keep [11,0,2,3,4,5,7,8,10,14,15,16,17,18] rfl
      refine hK37 _ _ ?_
      apply wp_seq_k; intro K38 hK38
      refine aT 29 [4,6,9,29] [0,1,2,3,5,8,12,13,14,15,16,17,18,20,21,22,24,25,26,27,4,6,7,9,10,11,19,23,28,29] (At w [(br,241,wc (dJ t S)),(bw,250,wc (fA (max (t+1) 16) V)),(bs,241,wc st),(bk,248,wc nums),(bd,29,Z0)]) af af (hAw.drew) ?_
      refine pR hF<|pX O O<|pW O O (fun _=>bT O Qq sS rfl rfl _ O (Nat.mod_lt _ ae) (ad1 _ _) (rfl:(none:Option Nat)=none))<|pV O O (fun x hx=>aW O hx O 0 O (show (wc (dJ t S))[(71-t)%8]? = some (.int .u32 (S.h:Nat)) from iG t S 71 7 O hlt ae) jr) fun a hF=>?_
      refine pR hF<|pX O O<|pX O O<|pX O O<|pX O O<|pX O O<|pX O O<|pX O O<|pW O O (fun _=>jV O O O O)<|pW O O (fun _=>uS O O O O)<|pW O O (fun _=>jV O O O (CQ _ _ _ he hf hg))<|pX O O<|pW O O (fun _=>bT O Qp sS rfl rfl t rfl ag (ad1 _ _) (rfl:(none:Option Nat)=none))<|pV O O (fun x hx=>aW O hx O 3 O (show (wc nums)[t]? = some (.int .u32 (wAt ks t:Nat)) by rw [mG (by rw [nums_length]; omega),CY t hlt]) jr) fun a hF=>?_
      refine pR hF<|pX O O<|pW O O (fun _=>fP O O O ae (rH t))<|pW O O (fun _=>bT O Qr sS rfl rfl _ O (Nat.mod_lt _ ae) (ad1 _ _) (rfl:(none:Option Nat)=none))<|pV O O (fun x hx=>aW O hx O 1 O (vz t V hlt) jr) fun a hF=>?_
      refine iE O O O (fun K hK=>ay hF O ae nM rfl rfl ?_)
      with_reducible refine (eu _ 6 6 O he ae ae _).mono ?_
      rintro e' w' ⟨rfl,rfl⟩
      refine ⟨_,rfl,fun a hF=>hK _ _ (fun _=>hAw.drew) ?_⟩
      refine iE O O O (fun K hK=>ay hF O ae nM rfl rfl ?_)
      with_reducible refine (eu _ 11 11 rfl he ae ae _).mono ?_
      rintro e' w' ⟨rfl,rfl⟩
      refine ⟨_,rfl,fun a hF=>hK _ _ (fun _=>hAw.drew) ?_⟩
      refine pR hF<|pW O O (fun _=>jV O O O O) fun a hF=>?_
      refine iE O O O (fun K hK=>ay hF O ae nM rfl rfl ?_)
      with_reducible refine (eu _ 25 25 rfl he ae ae _).mono ?_
      rintro e' w' ⟨rfl,rfl⟩
      refine ⟨_,rfl,fun a hF=>hK _ _ (fun _=>hAw.drew) ?_⟩
      refine pR hF<|pW O O (fun _=>jV O O O (Ag _ he))<|pW O O (fun _=>bn O O O (dR _ _))<|pW O O (fun _=>bn O O O (dR _ _))<|pW O O (fun _=>bn O O O (dR _ _))<|pW O O (fun _=>bn O O O (dR _ _)) fun a hF=>?_
      refine dZ hF O O O O ae _ (jL O O) (fun h=>absurd h ae) (fun a hF=>?_)
      refine bG ?_
      have hA11:=hAw.drew
      refine hK38 _ _ ?_
      refine wS hF fun K39 hK39=>vX O<|vV O (dC O O O (gU 65 65 t rfl hlt ae))<|vV O (fP O O O ae (gV 65 65 t rfl hlt ae))<|vV O (bT O Qq sS rfl rfl _ O (Nat.mod_lt _ ae) (ad1 _ _) (rfl:(none:Option Nat)=none))<|vV O (aW O hA11 O 0 O (show (wc (dJ t S))[(65-t)%8]? = some (.int .u32 (S.b:Nat)) from iG t S 65 1 O hlt ae) jr) fun a hF=>?_
      refine vR hF<|vX O<|vE hK39<|wT fun K40 hK40=>vX O<|vV O (dC O O O (gU 66 66 t rfl hlt ae))<|vV O (fP O O O ae (gV 66 66 t rfl hlt ae))<|vV O (bT O Qq sS rfl rfl _ O (Nat.mod_lt _ ae) (ad1 _ _) (rfl:(none:Option Nat)=none))<|vV O (aW O hA11 O 0 O (show (wc (dJ t S))[(66-t)%8]? = some (.int .u32 (S.c:Nat)) from iG t S 66 2 O hlt ae) jr) fun a hF=>?_
      refine vR hF<|vX O<|vE hK40<|wT fun K41 hK41=>vX O<|vV O (dC O O O (gU 67 67 t rfl hlt ae))<|vV O (fP O O O ae (gV 67 67 t rfl hlt ae))<|vX O<|vV O (dC O O O (gU 67 67 t rfl hlt ae))<|vV O (fP O O O ae (gV 67 67 t rfl hlt ae))<|vV O (bT O Qq sS rfl rfl _ O (Nat.mod_lt _ ae) (ad1 _ _) (rfl:(none:Option Nat)=none))<|vV O (aW O hA11 O 0 O (show (wc (dJ t S))[(67-t)%8]? = some (.int .u32 (S.d:Nat)) from iG t S 67 3 O hlt ae) jr) fun a hF=>?_
      refine vR hF<|vX O<|vV O (bn O O O (dR _ _))<|vV O (bT O Qq sS rfl rfl _ O (Nat.mod_lt _ ae) (ad1 _ _) (rfl:(none:Option Nat)=none)) fun a hF=>?_
      refine az O (fun K hK=>dI hF O O hA11 O O 0 O (by rw [bf,gm]; exact Nat.mod_lt _ ae) rfl sS (fun w12 hA12=>hK _ _ ?_))
      refine aG<|hK41 _ _ ?_
      refine wp_region_lit ?_
      refine vR hF<|vX O<|vX O<|vX O fun a hF=>?_
      refine az O (fun K hK=>ay hF O ae nM rfl rfl ?_)
      with_reducible refine (eu _ 2 2 O ha ae ae _).mono ?_
      rintro e' w' ⟨rfl,rfl⟩
      refine ⟨_,rfl,fun a hF=>hK _ _ ?_⟩
      refine vR hF<|vX O fun a hF=>?_
      refine az O (fun K hK=>ay hF O ae nM rfl rfl ?_)
      with_reducible refine (eu _ 13 13 rfl ha ae ae _).mono ?_
      rintro e' w' ⟨rfl,rfl⟩
      refine ⟨_,rfl,fun a hF=>hK _ _ ?_⟩
      refine vR hF<|vV O (jV O O O O)<|vX O fun a hF=>?_
      refine az O (fun K hK=>ay hF O ae nM rfl rfl ?_)
      with_reducible refine (eu _ 22 22 rfl ha ae ae _).mono ?_
      rintro e' w' ⟨rfl,rfl⟩
      refine ⟨_,rfl,fun a hF=>hK _ _ ?_⟩
      refine vR hF<|vV O (jV O O O (Ah _ ha))<|vV O (bn O O O (dR _ _))<|vX O<|vX O<|vV O (uS O O O O)<|vX O<|vX O<|vX O<|vV O (wC O O O O)<|vV O (uS O O O O)<|vV O (wC O O O (yB _ _ _ ha hb hc))<|vV O (bn O O O (dR _ _))<|vV O (bT O Qq sS rfl rfl _ O (Nat.mod_lt _ ae) (ad1 _ _) (rfl:(none:Option Nat)=none)) fun a hF=>?_
      refine az O (fun K hK=>dI hF O O hA12 O O 0 O (by rw [List.length_set,bf,gm]; exact Nat.mod_lt _ ae) rfl sS (fun w13 hA13=>hK _ _ ?_))
      replace hA13:At w [(br,241,wc (dJ (t+1) (rounds V (St.of st) (t+1)))),(bw,250,wc (fA (max (t+1) 16) V)),(bs,241,wc st),(bk,248,wc nums),(bd,29,Z0)] w13:=by rw [← hN,← vF t S _ _ hlt]; exact hA13
      refine aG<|hK30 _ _ ?_
      refine wp_region_lit ?_
      refine vR hF<|vX O<|vV O (bn O O O (PX _ ag))<|vX O fun a hF=>?_
      refine aG ?_
      exact ⟨t+1,ag,ag,hF.keep [11,0,2,3,4,5,7,8,10] rfl,hA13⟩
     ·have hx15:=hVlt (t-16+1)
      have hx2:=hVlt (t-16+14)
      have hvt:((add32 (add32 (add32 (wAt V (t-16+0)) (AC (wAt V (t-16+1)))) (wAt V (t-16+9))) (AB (wAt V (t-16+14))):Nat):Int)=(wAt V t:Nat):=by
       rw [hV,AO B t ag hlt,show t-16+0=t-16 by omega,show t-16+1=t-15 by omega,show t-16+9=t-7 by omega,show t-16+14=t-2 by omega]
      apply wp_skip
      refine hK28 _ _ ?_
      apply wp_seq_k; intro K42 hK42
      apply wp_block
      apply wp_seq_k; intro K43 hK43
      refine wS hF fun K44 hK44=>vX O<|vV O (aB O O O O (yX ag))<|vE hK44<|vT1 O<|wT fun K45 hK45=>vX O<|vV O (bn O O O (wR 1 1 t rfl hlt ae))<|vV O (fP O O O ae (wU 1 1 t rfl))<|vV O (bT O Qr sS rfl rfl _ O (Nat.mod_lt _ ae) (ad1 _ _) (rfl:(none:Option Nat)=none))<|vV O (aW O hAr O 1 O (rG t V 1 h16 hlt ae) jr)<|vX O<|vE hK45<|wT fun K46 hK46=>vX O<|vV O (bn O O O (wR 14 14 t rfl hlt ae))<|vV O (fP O O O ae (wU 14 14 t rfl))<|vV O (bT O Qr sS rfl rfl _ O (Nat.mod_lt _ ae) (ad1 _ _) (rfl:(none:Option Nat)=none))<|vV O (aW O hAr O 1 O (rG t V 14 h16 hlt ae) jr)<|vX O<|vE hK46<|wT fun K47 hK47=>vX O fun a hF=>?_
      refine az O (fun K hK=>ay hF O ae nM rfl rfl ?_)
      with_reducible refine (eu _ 7 7 O hx15 ae ae _).mono ?_
      rintro e' w' ⟨rfl,rfl⟩
      refine ⟨_,rfl,fun a hF=>hK _ _ ?_⟩
      refine vR hF<|vX O fun a hF=>?_
      refine az O (fun K hK=>ay hF O ae nM rfl rfl ?_)
      with_reducible refine (eu _ 18 18 rfl hx15 ae ae _).mono ?_
      rintro e' w' ⟨rfl,rfl⟩
      refine ⟨_,rfl,fun a hF=>hK _ _ ?_⟩
      refine vR hF<|vV O (jV O O O O)<|vX O<|vV O (lX O O O ae (Gl _))<|vV O (jV O O O (Gj _ hx15))<|vX O<|vE hK47<|wT fun K48 hK48=>vX O fun a hF=>?_
      refine az O (fun K hK=>ay hF O ae nM rfl rfl ?_)
      with_reducible refine (eu _ 17 17 rfl hx2 ae ae _).mono ?_
      rintro e' w' ⟨rfl,rfl⟩
      refine ⟨_,rfl,fun a hF=>hK _ _ ?_⟩
      refine vR hF<|vX O fun a hF=>?_
      refine az O (fun K hK=>ay hF O ae nM rfl rfl ?_)
      with_reducible refine (eu _ 19 19 rfl hx2 ae ae _).mono ?_
      rintro e' w' ⟨rfl,rfl⟩
      refine ⟨_,rfl,fun a hF=>hK _ _ ?_⟩
      refine vR hF<|vV O (jV O O O O)<|vX O<|vV O (lX O O O ae (Eh _))<|vV O (jV O O O (Gi _ hx2))<|vX O<|vE hK48 fun a hF=>?_
      refine aT 17 [17] [0,1,2,3,4,5,6,7,8,9,10,11,12,13,14,15,16,17] (At w [(br,241,wc (dJ t S)),(bw,250,wc (fA (max t 16) V)),(bs,241,wc st),(bk,248,wc nums),(bd,29,Z0)]) af af (hAr.drew) ?_
      refine pR hF<|pX O O<|pW O O (fun _=>fP O O O ae (rH t))<|pX O O<|pW O O (fun _=>fP O O O ae (rH t))<|pW O O (fun _=>bT O Qr sS rfl rfl _ O (Nat.mod_lt _ ae) (ad1 _ _) (rfl:(none:Option Nat)=none))<|pV O O (fun x hx=>aW O hx O 1 O (show (wc (fA (max t 16) V))[t%16]? = _ from rG t V 0 h16 hlt ae) jr) fun a hF=>?_
      refine pR hF<|pX O O<|pW O O (fun _=>bn O O O (dR _ _))<|pX O O<|pW O O (fun _=>bn O O O (wR 9 9 t rfl hlt ae))<|pW O O (fun _=>fP O O O ae (wU 9 9 t rfl))<|pW O O (fun _=>bT O Qr sS rfl rfl _ O (Nat.mod_lt _ ae) (ad1 _ _) (rfl:(none:Option Nat)=none))<|pV O O (fun x hx=>aW O hx O 1 O (rG t V 9 h16 hlt ae) jr)<|pW O O (fun _=>bn O O O (dR _ _))<|pX O O<|pW O O (fun _=>bn O O O ((dR _ _).trans hvt))<|pW O O (fun _=>bT O Qr sS rfl rfl _ O (Nat.mod_lt _ ae) (ad1 _ _) (rfl:(none:Option Nat)=none)) fun a hF=>?_
      refine iE O O O (fun K hK=>dI hF O O hAr.drew rfl rfl 1 O (by rw [bf,ku]; exact Nat.mod_lt _ ae) rfl sS (fun w11 hAw=>hK _ _ (fun h=>absurd h ae) ?_))
      replace hAw:At w [(br,241,wc (dJ t S)),(bw,250,wc (fA (max (t+1) 16) V)),(bs,241,wc st),(bk,248,wc nums),(bd,29,Z0)] w11:=by rw [← Eo t V h16 hlt]; exact hAw
      refine bG ?_
      replace hF:=hF.keep [11,0,2,3,4,5,7,8,10] rfl
      refine hK43 _ _ ?_
      refine wS hF fun K49 hK49=>vX O<|vV O (dC O O O (gU 64 64 t rfl hlt ae))<|vV O (fP O O O ae (gV 64 64 t rfl hlt ae))<|vV O (bT O Qq sS rfl rfl _ O (Nat.mod_lt _ ae) (ad1 _ _) (rfl:(none:Option Nat)=none))<|vV O (aW O hAw O 0 O (show (wc (dJ t S))[(64-t)%8]? = some (.int .u32 (S.a:Nat)) from iG t S 64 0 O hlt ae) jr) fun a hF=>?_
      refine vR hF<|vX O<|vE hK49<|wT fun K50 hK50=>vX O<|vV O (dC O O O (gU 68 68 t rfl hlt ae))<|vV O (fP O O O ae (gV 68 68 t rfl hlt ae))<|vV O (bT O Qq sS rfl rfl _ O (Nat.mod_lt _ ae) (ad1 _ _) (rfl:(none:Option Nat)=none))<|vV O (aW O hAw O 0 O (show (wc (dJ t S))[(68-t)%8]? = some (.int .u32 (S.e:Nat)) from iG t S 68 4 O hlt ae) jr) fun a hF=>?_
      refine vR hF<|vX O<|vE hK50<|wT fun K51 hK51=>vX O<|vV O (dC O O O (gU 69 69 t rfl hlt ae))<|vV O (fP O O O ae (gV 69 69 t rfl hlt ae))<|vV O (bT O Qq sS rfl rfl _ O (Nat.mod_lt _ ae) (ad1 _ _) (rfl:(none:Option Nat)=none))<|vV O (aW O hAw O 0 O (show (wc (dJ t S))[(69-t)%8]? = some (.int .u32 (S.f:Nat)) from iG t S 69 5 O hlt ae) jr) fun a hF=>?_
      refine vR hF<|vX O<|vE hK51<|wT fun K52 hK52=>vX O<|vV O (dC O O O (gU 70 70 t rfl hlt ae))<|vV O (fP O O O ae (gV 70 70 t rfl hlt ae))<|vV O (bT O Qq sS rfl rfl _ O (Nat.mod_lt _ ae) (ad1 _ _) (rfl:(none:Option Nat)=none))<|vV O (aW O hAw O 0 O (show (wc (dJ t S))[(70-t)%8]? = some (.int .u32 (S.g:Nat)) from iG t S 70 6 O hlt ae) jr) fun a hF=>?_
      refine vR hF<|vX O<|vE hK52<|wT fun K53 hK53=>vX O<|vV O (dC O O O (gU 71 71 t rfl hlt ae))<|vV O (fP O O O ae (gV 71 71 t rfl hlt ae))<|vX O fun a hF=>?_
      refine aG ?_
      replace hF:=hF.keep [11,0,2,3,4,5,7,8,10,14,15,16,17,18] rfl
      refine hK53 _ _ ?_
      apply wp_seq_k; intro K54 hK54
      refine aT 29 [4,6,9,29] [0,1,2,3,5,8,12,13,14,15,16,17,18,20,21,22,24,25,26,27,4,6,7,9,10,11,19,23,28,29] (At w [(br,241,wc (dJ t S)),(bw,250,wc (fA (max (t+1) 16) V)),(bs,241,wc st),(bk,248,wc nums),(bd,29,Z0)]) af af (hAw.drew) ?_
      refine pR hF<|pX O O<|pW O O (fun _=>bT O Qq sS rfl rfl _ O (Nat.mod_lt _ ae) (ad1 _ _) (rfl:(none:Option Nat)=none))<|pV O O (fun x hx=>aW O hx O 0 O (show (wc (dJ t S))[(71-t)%8]? = some (.int .u32 (S.h:Nat)) from iG t S 71 7 O hlt ae) jr) fun a hF=>?_
      refine pR hF<|pX O O<|pX O O<|pX O O<|pX O O<|pX O O<|pX O O<|pX O O<|pW O O (fun _=>jV O O O O)<|pW O O (fun _=>uS O O O O)<|pW O O (fun _=>jV O O O (CQ _ _ _ he hf hg))<|pX O O<|pW O O (fun _=>bT O Qp sS rfl rfl t rfl ag (ad1 _ _) (rfl:(none:Option Nat)=none))<|pV O O (fun x hx=>aW O hx O 3 O (show (wc nums)[t]? = some (.int .u32 (wAt ks t:Nat)) by rw [mG (by rw [nums_length]; omega),CY t hlt]) jr) fun a hF=>?_
      refine pR hF<|pX O O<|pW O O (fun _=>fP O O O ae (rH t))<|pW O O (fun _=>bT O Qr sS rfl rfl _ O (Nat.mod_lt _ ae) (ad1 _ _) (rfl:(none:Option Nat)=none))<|pV O O (fun x hx=>aW O hx O 1 O (vz t V hlt) jr) fun a hF=>?_
      refine iE O O O (fun K hK=>ay hF O ae nM rfl rfl ?_)
      with_reducible refine (eu _ 6 6 O he ae ae _).mono ?_
      rintro e' w' ⟨rfl,rfl⟩
      refine ⟨_,rfl,fun a hF=>hK _ _ (fun _=>hAw.drew) ?_⟩
      refine iE O O O (fun K hK=>ay hF O ae nM rfl rfl ?_)
      with_reducible refine (eu _ 11 11 rfl he ae ae _).mono ?_
      rintro e' w' ⟨rfl,rfl⟩
      refine ⟨_,rfl,fun a hF=>hK _ _ (fun _=>hAw.drew) ?_⟩
      refine pR hF<|pW O O (fun _=>jV O O O O) fun a hF=>?_
      refine iE O O O (fun K hK=>ay hF O ae nM rfl rfl ?_)
      with_reducible refine (eu _ 25 25 rfl he ae ae _).mono ?_
      rintro e' w' ⟨rfl,rfl⟩
      refine ⟨_,rfl,fun a hF=>hK _ _ (fun _=>hAw.drew) ?_⟩
      refine pR hF<|pW O O (fun _=>jV O O O (Ag _ he))<|pW O O (fun _=>bn O O O (dR _ _))<|pW O O (fun _=>bn O O O (dR _ _))<|pW O O (fun _=>bn O O O (dR _ _))<|pW O O (fun _=>bn O O O (dR _ _)) fun a hF=>?_
      refine dZ hF O O O O ae _ (jL O O) (fun h=>absurd h ae) (fun a hF=>?_)
      refine bG ?_
      have hA11:=hAw.drew
      refine hK54 _ _ ?_
      refine wS hF fun K55 hK55=>vX O<|vV O (dC O O O (gU 65 65 t rfl hlt ae))<|vV O (fP O O O ae (gV 65 65 t rfl hlt ae))<|vV O (bT O Qq sS rfl rfl _ O (Nat.mod_lt _ ae) (ad1 _ _) (rfl:(none:Option Nat)=none))<|vV O (aW O hA11 O 0 O (show (wc (dJ t S))[(65-t)%8]? = some (.int .u32 (S.b:Nat)) from iG t S 65 1 O hlt ae) jr) fun a hF=>?_
      refine vR hF<|vX O<|vE hK55<|wT fun K56 hK56=>vX O<|vV O (dC O O O (gU 66 66 t rfl hlt ae))<|vV O (fP O O O ae (gV 66 66 t rfl hlt ae))<|vV O (bT O Qq sS rfl rfl _ O (Nat.mod_lt _ ae) (ad1 _ _) (rfl:(none:Option Nat)=none))<|vV O (aW O hA11 O 0 O (show (wc (dJ t S))[(66-t)%8]? = some (.int .u32 (S.c:Nat)) from iG t S 66 2 O hlt ae) jr) fun a hF=>?_
      refine vR hF<|vX O<|vE hK56<|wT fun K57 hK57=>vX O<|vV O (dC O O O (gU 67 67 t rfl hlt ae))<|vV O (fP O O O ae (gV 67 67 t rfl hlt ae))<|vX O<|vV O (dC O O O (gU 67 67 t rfl hlt ae))<|vV O (fP O O O ae (gV 67 67 t rfl hlt ae))<|vV O (bT O Qq sS rfl rfl _ O (Nat.mod_lt _ ae) (ad1 _ _) (rfl:(none:Option Nat)=none))<|vV O (aW O hA11 O 0 O (show (wc (dJ t S))[(67-t)%8]? = some (.int .u32 (S.d:Nat)) from iG t S 67 3 O hlt ae) jr) fun a hF=>?_
      refine vR hF<|vX O<|vV O (bn O O O (dR _ _))<|vV O (bT O Qq sS rfl rfl _ O (Nat.mod_lt _ ae) (ad1 _ _) (rfl:(none:Option Nat)=none)) fun a hF=>?_
      refine az O (fun K hK=>dI hF O O hA11 O O 0 O (by rw [bf,gm]; exact Nat.mod_lt _ ae) rfl sS (fun w12 hA12=>hK _ _ ?_))
      refine aG<|hK57 _ _ ?_
      refine wp_region_lit ?_
      refine vR hF<|vX O<|vX O<|vX O fun a hF=>?_
      refine az O (fun K hK=>ay hF O ae nM rfl rfl ?_)
      with_reducible refine (eu _ 2 2 O ha ae ae _).mono ?_
      rintro e' w' ⟨rfl,rfl⟩
      refine ⟨_,rfl,fun a hF=>hK _ _ ?_⟩
      refine vR hF<|vX O fun a hF=>?_
      refine az O (fun K hK=>ay hF O ae nM rfl rfl ?_)
      with_reducible refine (eu _ 13 13 rfl ha ae ae _).mono ?_
      rintro e' w' ⟨rfl,rfl⟩
      refine ⟨_,rfl,fun a hF=>hK _ _ ?_⟩
      refine vR hF<|vV O (jV O O O O)<|vX O fun a hF=>?_
      refine az O (fun K hK=>ay hF O ae nM rfl rfl ?_)
      with_reducible refine (eu _ 22 22 rfl ha ae ae _).mono ?_
      rintro e' w' ⟨rfl,rfl⟩
      refine ⟨_,rfl,fun a hF=>hK _ _ ?_⟩
      refine vR hF<|vV O (jV O O O (Ah _ ha))<|vV O (bn O O O (dR _ _))<|vX O<|vX O<|vV O (uS O O O O)<|vX O<|vX O<|vX O<|vV O (wC O O O O)<|vV O (uS O O O O)<|vV O (wC O O O (yB _ _ _ ha hb hc))<|vV O (bn O O O (dR _ _))<|vV O (bT O Qq sS rfl rfl _ O (Nat.mod_lt _ ae) (ad1 _ _) (rfl:(none:Option Nat)=none)) fun a hF=>?_
      refine az O (fun K hK=>dI hF O O hA12 O O 0 O (by rw [List.length_set,bf,gm]; exact Nat.mod_lt _ ae) rfl sS (fun w13 hA13=>hK _ _ ?_))
      replace hA13:At w [(br,241,wc (dJ (t+1) (rounds V (St.of st) (t+1)))),(bw,250,wc (fA (max (t+1) 16) V)),(bs,241,wc st),(bk,248,wc nums),(bd,29,Z0)] w13:=by rw [← hN,← vF t S _ _ hlt]; exact hA13
      refine aG<|hK42 _ _ ?_
      refine wp_region_lit ?_
      refine vR hF<|vX O<|vV O (bn O O O (PX _ ag))<|vX O fun a hF=>?_
      refine aG ?_
      exact ⟨t+1,ag,ag,hF.keep [11,0,2,3,4,5,7,8,10] rfl,hA13⟩
    ·obtain rfl:t=64:=by omega
     obtain ⟨R,hR⟩:∃ R,R=(rounds V (St.of st) 64).list:=⟨_,rfl⟩
     have hRl:R.length=8:=by rw [hR]; rfl
     obtain ⟨W,hW⟩:∃ W,W=fA (max 64 16) V:=⟨_,rfl⟩
     have hCe:cur st R 8=blocks (j+1) init8 P:=by rw [Dv,← hC,hR,hV]; rfl
     replace hAr:At w [(br,241,wc R),(bw,250,wc W),(bs,241,wc (cur st R 0)),(bk,248,wc nums),(bd,29,Z0)] wr:=by rw [zJ st R hsl,hR,hW,← AU]; exact hAr
     apply wp_seq_k; intro K58 hK58
     refine wS hF fun K59 hK59=>vX O<|vV O (aB O O O O (dA ag))<|vE hK59<|vF1 O fun a hF=>?_
     apply wp_exit
     refine hK26 _ _ ?_
     refine wS hF fun K60 hK60=>vX O<|vE hK60<|wBk fun a hF=>?_
     refine bH (G:=Nat) (fun k a x=>k≤8∧Fr 242 [(22,.int .i64 (k:Int)),(0,.slice A n c),(2,.pointer (some ⟨bd,0,none⟩)),(3,.pointer (some ⟨bk,0,none⟩)),(4,.int .i64 ((64*nb:Nat):Int)),(5,.pointer (some ⟨bs,0,none⟩)),(7,.int .i64 (64*(j:Int))),(10,.pointer (some ⟨br,0,none⟩))] a∧At w [(br,241,wc R),(bw,250,wc W),(bs,241,wc (cur st R k)),(bk,248,wc nums),(bd,29,Z0)] x) (fun k=>8-k) 0 ⟨PU _,hF.keep [22,0,2,3,4,5,7,10] rfl,hAr⟩ ?_
     clear hF
     rintro k a wr ⟨hk,hF,hAr⟩
     clear ht
     by_cases hlt:k<8
     ·apply wp_seq_k; intro K61 hK61
      refine wS hF fun K62 hK62=>vX O<|vV O (aB O O O O (dB ag))<|vE hK62<|vT1 O<|wKp hK61<|wQ fun K63 hK63=>wBk fun a hF=>?_
      refine aT 9 [9] [0,1,2,3,4,5,6,7,8,9] (At w [(br,241,wc R),(bw,250,wc W),(bs,241,wc (cur st R k)),(bk,248,wc nums),(bd,29,Z0)]) af af (hAr.drew) ?_
      refine pR hF<|pX O O<|pX O O<|pW O O (fun _=>bT O Qq sS rfl rfl k rfl hlt (ad1 _ _) (rfl:(none:Option Nat)=none))<|pV O O (fun x hx=>aW O hx O 2 O (IC st R k hlt) jr)<|pX O O<|pW O O (fun _=>bT O Qq sS rfl rfl k rfl hlt (ad1 _ _) (rfl:(none:Option Nat)=none))<|pV O O (fun x hx=>aW O hx O 0 O (mG (by rw [hRl]; exact hlt)) jr) fun a hF=>?_
      refine pR hF<|pW O O (fun _=>bn O O O (dR _ _))<|pW O O (fun _=>bT O Qq sS rfl rfl k rfl hlt (ad1 _ _) (rfl:(none:Option Nat)=none)) fun a hF=>?_
      refine iE O O O (fun K hK=>dI hF O O hAr.drew rfl rfl 2 O (by rw [bf,jG]; exact hlt) rfl sS (fun w14 hA14=>hK _ _ (fun h=>absurd h ae) ?_))
      replace hA14:At w [(br,241,wc R),(bw,250,wc W),(bs,241,wc (cur st R (k+1))),(bk,248,wc nums),(bd,29,Z0)] w14:=by rw [← zK st R k hlt]; exact hA14
      refine bG ?_
      refine hK63 _ _ ?_
      refine wp_region_lit ?_
      refine vR hF<|vX O<|vV O (bn O O O (PX _ ag))<|vX O fun a hF=>?_
      refine aG ?_
      exact ⟨k+1,ag,ag,hF.keep [22,0,2,3,4,5,7,10] rfl,hA14⟩
     ·obtain rfl:k=8:=by omega
      rw [hCe] at hAr
      have hA15:At w [(bs,241,wc (blocks (j+1) init8 P)),(bk,248,wc nums),(bd,29,Z0)] wr:=hAr.drop (List.Sublist.cons _ (List.Sublist.cons _ (List.Sublist.refl _))) (fun r hr hlt'=>by
       simp only [List.mem_cons,List.not_mem_nil,or_false] at hr ⊢
       rcases hr with rfl | rfl | rfl | rfl | rfl
       ·simp only at hlt'; omega
       ·simp only at hlt'; omega
       ·exact .inl rfl
       ·exact .inr (.inl rfl)
       ·exact .inr (.inr rfl))
      apply wp_seq_k; intro K64 hK64
      refine wS hF fun K65 hK65=>vX O<|vV O (aB O O O O (dA ag))<|vE hK65<|vF1 O fun a hF=>?_
      apply wp_exit
      refine hK16 _ _ ?_
      refine wp_region_lit ?_
      refine vR hF<|vX O<|vV O (bn O O O (show IntKind.i64.wrap (64*(j:Int)+64)=64*((j+1:Nat):Int) by rw [PX _ ag]; omega)) fun a hF=>?_
      refine vR hF<|vX O fun a hF=>?_
      refine aG ?_
      exact ⟨j+1,ag,ag,hF.keep [7,0,2,3,4,5] rfl,hA15⟩
  ·obtain rfl:nb=j:=by omega
   obtain ⟨st,hst⟩:∃ st,st=blocks nb init8 P:=⟨_,rfl⟩
   have hsl:st.length=8:=by rw [hst]; exact aX _ _ _ rfl
   have hSha:ob st 32=sha l:=by rw [show (32:Nat)=4*8 from rfl,GN st hsl,AL,hst,hP,← hn,← hwh,Nat.mul_div_cancel_left _ ae]
   rw [← hst] at hAr
   apply wp_seq_k; intro K66 hK66
   refine wS hF fun K67 hK67=>vX O<|vX O<|vV O (aB O O O O (dA ag))<|vE hK67<|vF1 O fun a hF=>?_
   apply wp_exit
   refine hK12 _ _ ?_
   refine wp_seq_k fun K68 hK68=>wp_region_lit ?_
   refine az O (fun K hK=>iI hF O ae rfl hAr nU (fun bo w16 a hbo hF hA16=>hK _ _ ?_))
   refine aG<|hK68 _ _ ?_
   apply wp_seq_k; intro K69 hK69
   refine wS hF fun K70 hK70=>vX O<|vE hK70<|wBk fun a hF=>?_
   have q5:bs<bo:=by have:=hAr.lt (k:=0) rfl; omega
   refine bH (G:=Nat) (fun i a x=>i≤32∧Fr 242 [(24,.int .i64 (i:Int)),(0,.slice A n c),(2,.pointer (some ⟨bd,0,none⟩)),(3,.pointer (some ⟨bk,0,none⟩)),(4,.int .i64 ((64*nb:Nat):Int)),(5,.pointer (some ⟨bs,0,none⟩)),(23,.pointer (some ⟨bo,0,none⟩))] a∧At w [(bo,29,dc (ob st i)),(bs,241,wc st),(bk,248,wc nums),(bd,29,Z0)] x) (fun i=>32-i) 0 ⟨PU _,hF.keep [24,0,2,3,4,5,23] rfl,hA16⟩ ?_
   clear hF
   rintro i a wr ⟨hi,hF,hAr⟩
   by_cases hlt:i<32
   ·apply wp_seq_k; intro K71 hK71
    refine wS hF fun K72 hK72=>vX O<|vV O (aB O O O O (dB ag))<|vE hK72<|vT1 O<|wKp hK71<|wQ fun K73 hK73=>wBk fun a hF=>?_
    refine wp_region_lit ?_
    refine vR hF<|vX O<|vX O<|vV O (Ci O O O ae (xI i ag))<|vV O (bT O Qq sS rfl rfl (i/4) rfl ag (ad1 _ _) (rfl:(none:Option Nat)=none))<|vV O (aW O hAr O 1 O (mG (by rw [hsl]; omega)) jr) fun a hF=>?_
    refine vR hF<|vX O<|vV O (fP O O O ae (G8 i))<|vV O (rW O O O (PX _ ag))<|vV O (dC O O O (PX _ ag))<|vV O (bJ O Qb Qs O (show IntKind.u64.wrap (24-8*((i%4:Nat):Int))=24-8*((i%4:Nat):Int) by rw [IntKind.wrap_u64]; omega)) fun a hF=>?_
    refine vR hF<|vV O (lX O O O ag rfl)<|vV O (bJ O Qm PW O (Kw _ _ (Nat.mod_lt _ ae)))<|vV O (bT O PV lG rfl rfl i rfl hlt (ad1 _ _) (rfl:(none:Option Nat)=none)) fun a hF=>?_
    refine az O (fun K hK=>dI hF O O hAr O O 0 O (by rw [aI,pY st hsl i hi]; exact hlt) rfl lG (fun w17 hA17=>hK _ _ ?_))
    replace hA17:At w [(bo,29,dc (ob st (i+1))),(bs,241,wc st),(bk,248,wc nums),(bd,29,Z0)] w17:=by rw [← NR st hsl i hlt]; exact hA17
    refine aG<|hK73 _ _ ?_
    refine wp_region_lit ?_
    refine vR hF<|vX O<|vV O (bn O O O (PX _ ag))<|vX O fun a hF=>?_
    refine aG ?_
    exact ⟨i+1,ag,ag,hF.keep [24,0,2,3,4,5,23] rfl,hA17⟩
   ·obtain rfl:i=32:=by omega
    rw [hSha] at hAr
    apply wp_seq_k; intro K74 hK74
    refine wS hF fun K75 hK75=>vX O<|vV O (aB O O O O (dA ag))<|vE hK75<|vF1 O fun a hF=>?_
    apply wp_exit
    refine hK69 _ _ ?_
    refine wS hF fun K76 hK76=>vV O (kY O hAr O 0 O CP (by rw [aI,eY]; decide) (by rw [List.drop_zero,P8 (by rw [aI,eY]; exact P5 _)])) fun a hF=>?_
    refine az O (fun K hK=>iZ hF O O hAr O O 3 O (by rw [hZl,aI,eY]) (iw _) (by rw [AA,hZl]) (fun w18 hA18=>hK _ _ ?_))
    replace hA18:At w [(bo,29,dc (sha l)),(bs,241,wc st),(bk,248,wc nums),(bd,29,dc (sha l))] w18:=hA18
    refine aG<|hK76 _ _ ?_
    apply wp_ret
    refine ni hF Tryz.results167 hA18 O 3 O (by rw [aI,eY]; exact CP) ?_
    refine ⟨rfl,hA18.clear (fun r hr=>?_)⟩
    simp only [List.mem_cons,List.not_mem_nil,or_false] at hr
    rcases hr with rfl | rfl | rfl | rfl <;> simp only <;> omega
end Go.Proofs.YtepbmdlgdaedpaaGreatDoor
