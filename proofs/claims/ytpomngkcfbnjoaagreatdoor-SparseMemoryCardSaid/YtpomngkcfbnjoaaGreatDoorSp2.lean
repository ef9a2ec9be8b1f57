/- The rows of a sparse proof. -/
import Derived.Test.YtpomngkcfbnjoaaGreatDoorSp1
import Derived.Test.YtpomngkcfbnjoaaGreatDoorTt
/- The rows of a sparse proof. -/
set_option maxRecDepth 100000
set_option maxHeartbeats 2000000
namespace Go.Proofs.YtpomngkcfbnjoaaGreatDoor
open Go.RowKit Go.Dk
theorem OL:isRow Tryz.prog 30 67=true:=af
theorem PP:aG Tryz.prog 68:=⟨_,Tryz.func68,af,af⟩
theorem PN:aG Tryz.prog 59:=⟨_,Tryz.func59,af,af⟩
theorem PD:aG Tryz.prog 82:=⟨_,Tryz.func82,af,af⟩
theorem Eo (w0 w:World) (R G:List Seg) (hG:G⊆R) (A:Option Addr) (l:List UInt8) (c n:Nat) (hn:n=l.length) (hR:Rd w0 G A l) (hc:l.length≤c) (hl:l.length<140737488353000) (hT:Tab w0) (hA:Hp w0 R w):Calls Tryz.prog 71 #[.slice A n c] w fun e w'=>e= .returned (.agg (dc (sha l)).toArray)∧Hp w0 R w':=by
 refine (Fv w A l c n hn ag ((hR.mono hG).bts hA.q) ag (hT.hp hA)).mono ?_
 rintro e w' ⟨rfl,hw⟩
 exact ⟨rfl,hA.then0 hw⟩
theorem zO (w0 w:World) (R G:List Seg) (hG:G⊆R) (A:Option Addr) (l:List UInt8) (c n:Nat) (hn:n=l.length) (hR:Rd w0 G A l) (hl:l.length<140737488353000) (hA:Hp w0 R w):Calls Tryz.prog 50 #[.slice A n c] w fun e w'=>e= .returned (.agg (dc (sha l)).toArray)∧Hp w0 R w':=by
 subst hn
 exact I4 w0 w R A l c (hR.mono hG) hA ag
theorem wG (w0 w:World) (R:List Seg) (d:List UInt8) (m:Int) (hd:d.length=32) (hA:Hp w0 R w):Calls Tryz.prog 69 #[.agg (dc d).toArray,.int .i64 m] w fun e w'=>e= .returned (.agg (dc (gZ d m)).toArray)∧Hp w0 R w':=by
 refine (GR d m w hd).mono ?_
 rintro e w' ⟨rfl,hw⟩
 exact ⟨rfl,hA.then0 hw⟩
theorem zQ (w0 w:World) (R:List Seg) (d:List UInt8) (m:Int) (hd:d.length=32) (hA:Hp w0 R w):Calls Tryz.prog 49 #[.agg (dc d).toArray,.int .i64 m] w fun e w'=>e= .returned (.agg (dc (gZ d m)).toArray)∧Hp w0 R w':=by
 refine (Cm d m w hd).mono ?_
 rintro e w' ⟨rfl,hw⟩
 exact ⟨rfl,hA.then0 hw⟩
theorem Gs (w0:World) (R:List Seg):PcS w0 R none []:=⟨Rc.nil,fun _ h=>by cases h⟩
theorem vH {w0:World} {R:List Seg} {pa A B:Option Addr} {ca cb:Nat} {l m:List UInt8} (h:Rc w0 R pa [.slice A l.length ca,.slice B m.length cb]) (ha:l.length≤ca) (hb:m.length≤cb) (hl:Rd w0 R A l) (hm:Rd w0 R B m):PcS w0 R pa [(A,ca,l),(B,cb,m)]:=by
 refine ⟨h,fun p hp=>?_⟩
 simp only [List.mem_cons,List.not_mem_nil,or_false] at hp
 rcases hp with rfl | rfl
 ·exact ⟨ha,hl⟩
 ·exact ⟨hb,hm⟩
theorem zf {w0:World} {R:List Seg} {pa A B C:Option Addr} {ca cb cc:Nat} {l m k:List UInt8} (h:Rc w0 R pa [.slice A l.length ca,.slice B m.length cb,.slice C k.length cc]) (ha:l.length≤ca) (hb:m.length≤cb) (hc:k.length≤cc) (hl:Rd w0 R A l) (hm:Rd w0 R B m) (hk:Rd w0 R C k):PcS w0 R pa [(A,ca,l),(B,cb,m),(C,cc,k)]:=by
 refine ⟨h,fun p hp=>?_⟩
 simp only [List.mem_cons,List.not_mem_nil,or_false] at hp
 rcases hp with rfl | rfl | rfl
 ·exact ⟨ha,hl⟩
 ·exact ⟨hb,hm⟩
 ·exact ⟨hc,hk⟩
theorem iY (f:Nat→List UInt8) (n i:Nat) (hf:∀ i,i<n→(f i).length=32) (hi:i<n):((dM f n).drop (i*32)).take 32=dc (f i)∧i*32+32≤(dM f n).length:=by
 rw [kY]
 exact xZ (sz:=32) (fun x hx=>by obtain ⟨j,hj,rfl⟩:=List.mem_map.1 hx; rw [aj]; exact hf j (List.mem_range.1 hj)) (by rw [List.getElem?_map,List.getElem?_range hi]; rfl)
theorem jT (f:Nat→List UInt8) (n:Nat) (hf:∀ i,i<n→(f i).length=32):(dM f n).length=n*32:=by
 rw [kY,nH (sz:=32) (fun x hx=>by obtain ⟨i,hi,rfl⟩:=List.mem_map.1 hx; rw [aj]; exact hf i (List.mem_range.1 hi)),List.length_map,List.length_range]
theorem Ja (f:Nat→List UInt8) (n k:Nat) (hf:∀ i,i<n+k→(f i).length=32):(dM f (n+k)).take (n*32)=dM f n:=by
 induction k with
 | zero=>exact TJ (by rw [Nat.add_zero,jT f n (fun i hi=>hf i ag)]; exact TG _)
 | succ k ih =>
  have h1:=jT f (n+k) (fun i hi=>hf i ag)
  rw [← Nat.add_assoc,kJ,List.take_append_of_le_length (by rw [h1,Nat.add_mul]; omega)]
  exact ih (fun i hi=>hf i ag)
theorem oK {f g:Nat→List UInt8} {n:Nat} (h:∀ i,i<n→f i=g i):dM f n=dM g n:=by
 rw [kY,kY]
 congr 1
 exact List.map_congr_left (fun i hi=>h i (List.mem_range.1 hi))
theorem JY {p:Prf} (hp:p.OK) {n:Nat} {d:List UInt8} (h:p.ss[n]? = some d):((fF p.ss).drop (n*32)).take 32=dc d∧n*32+32≤(fF p.ss).length :=
 xZ (C:=dc) (sz:=32) (fun x hx=>by rw [aj]; exact hp.ss x hx) h
theorem Prf.err_form {p:Prf} {width:Int} (h:p.formed=false):p.err width=8:=by unfold Prf.err; rw [h]; rfl
theorem Prf.err_bad {p:Prf} {width:Int} (hf:p.formed=true) {h:Nat} (hb:p.badAt width h=true) (hh:h<256):p.err width=170:=by unfold Prf.err; rw [hf,Prf.bad_stop hb hh]; rfl
theorem Prf.err_ok {p:Prf} {width:Int} (hf:p.formed=true) (hb:p.bad width 256=false):p.err width=0:=by unfold Prf.err; rw [hf,hb]; rfl
theorem qH (w0 w:World) (R:List Seg) (width:Int) (hT:Tab w0) (hA:Hp w0 R w):Calls Tryz.prog 59 #[.int .i64 width] w fun e w'=>∃ v X,e= .returned v∧Buf 25 32 X v 257 (dM (aK width) 257)∧Hp w0 (X::R) w':=by
 have hdl:=bZ width
 refine aJ Tryz.func59 O Tryz.ntmps59 ai (fun a hF=>?_)
 refine wS hF fun K1 hK1=>vX O<|vE hK1<|wT fun K2 hK2=>vX O fun a hF=>?_
 refine au O (fun K hK=>ax hF O ae PD rfl rfl ?_)
 with_reducible refine (JP w0 _ R width 0 hT hA).mono ?_
 rintro e' w1 ⟨rfl,hA2⟩
 refine ⟨_,rfl,fun a hF=>hK _ _ ?_⟩
 replace hA2:Hp w0 (R) w1:=hA2
 rw [show (min (max (0:Int) 0) 256).toNat=0 from rfl] at hF
 refine au O (fun K hK=>jY (qs := #[(0,.agg (dc (aK width 0)).toArray)]) (cells:=(dc (aK width 0)).toArray) hF O ae rfl hA2 O (lY (hdl 0)) (fun b3 w4 a hb3 hF hA5=>hK _ _ ?_))
 refine vR hF<|vX O<|vE hK2<|wQ fun K3 hK3=>wT fun K4 hK4=>vX O<|vE hK4<|wBk fun a hF=>?_
 have hE0:Buf 25 32 [row b3 25 (dc (aK width 0))] (.slice (some ⟨b3,0,none⟩) 1 1) 1 (dM (aK width) 1):=by rw [Dx]; exact Buf.full (by rw [aj,hdl 0]) ae
 refine bQ (G:=Nat) (fun j a x=>∃ (ev:Value) (XE:Seg),j≤256∧Buf 25 32 XE ev (j+1) (dM (aK width) (j+1))∧Fr 26 [(8,.int .i64 (j:Int)),(3,ev),(0,.int .i64 width)] a∧Hp w0 (XE::R) x) (fun j=>256-j) 0 (⟨_,_,Tv _,hE0,hF.keep [8,3,0] rfl,hA5⟩) ?_
 clear hF
 rintro j a w7 ⟨ev,XE,hj,hE,hF,hA6⟩
 refine wS hF fun K5 hK5=>vV O (aH O O O O O)<|vE hK5<|wQ fun K6 hK6 a hF=>?_
 by_cases hlt:j<256
 ·refine aZ hF O (dB ag) ?_
  have hFn:=hF
  obtain ⟨AE,cE,rfl,hcE,hRE⟩:=hE.rc (w0:=w0) (R:=[XE]) (TF ..)
  obtain ⟨hrd,hle⟩:=iY (aK width) (j+1) j (fun i _=>hdl i) (Nat.lt_succ_self _)
  obtain ⟨b,q,rfl,hc⟩:=hRE.ne (i:=j*32) ag
  have hF:=hFn
  clear hFn
  apply wp_skip
  refine hK6 _ _ ?_
  apply wp_seq_k; intro K7 hK7
  apply wp_block
  refine wS hF fun K8 hK8=>vX O<|vX O<|vE hK8 fun a hF=>?_
  refine ak 12 [10,11,12,13] [0,1,2,3,4,5,6,7,8,9,10,11,12,13] _ af af (Hq.drew hA6.q) ?_
  have hA8:=Hl.drew hA6
  refine pR hF<|pX O O<|pX O O<|pX O O<|pX O O<|pW O O (fun _=>bi O Tu FW rfl rfl j rfl (Nat.lt_succ_self _) rfl)<|pV O O (fun x hx=>aQ O (Hq.sub hx (dZ ((TF ..)))) O hc (j*32) hle rfl hrd vw)<|pX O O<|pX O O<|pW O O (fun _=>bi O Tu FW rfl rfl j rfl (Nat.lt_succ_self _) rfl)<|pV O O (fun x hx=>aQ O (Hq.sub hx (dZ ((TF ..)))) O hc (j*32) hle rfl hrd vw) fun a hF=>?_
  refine bM O O O (fun K hK=>ax hF O ae P9 rfl rfl ?_)
  with_reducible refine (pz w0 _ (XE::R) width (aK width j) (aK width j) (hdl j) (hdl j) hT hA8).mono ?_
  rintro e' w9 ⟨rfl,hA10⟩
  refine ⟨_,rfl,fun a hF=>hK _ _ (fun _=>?_) ?_⟩
  ·exact hA10.q
  replace hA10:Hp w0 (XE::R) w9:=hA10
  rw [show ofL width 4 (aK width j++aK width j)=aK width (j+1) from rfl] at hF
  refine bM O O O (fun K hK=>jY (qs := #[(0,.agg (dc (aK width (j+1))).toArray)]) (cells:=(dc (aK width (j+1))).toArray) hF O ae rfl hA10 O (lY (hdl (j+1))) (fun b11 w12 a hb11 hF hA13=>hK _ _ (fun _=>?_) ?_))
  ·exact (qT hA13)
  refine bM O O O (fun K hK=>dI hF O ae rfl hA13 1 O hE Tu oh rfl rfl (Rc.srcC (W:=dc (aK width (j+1))) (m:=1) (size:=32) (R:=[row b11 25 (dc (aK width (j+1)))]::XE::R) (Rc.ofRow (i:=0) (off:=0) rfl (by rw [List.drop_zero]; exact List.take_length ..)) hA13.q Tu ae (by rw [aj,hdl]) (bz _)) ag ae (fun ev2 XE2 w14 a hE2 hF hA15=>hK _ _ (fun h=>absurd h ae) ?_))
  replace hA15:Hp w0 ([row b11 25 (dc (aK width (j+1)))]::XE2::R) w14:=hA15
  refine bY hF O O O O ae _ (bJ O O) (fun h=>absurd h ae) (fun a hF=>?_)
  refine aB ?_
  refine hK7 _ _ ?_
  refine wp_region_lit ?_
  refine vR hF<|vV O (bH O O O (TB _ ag))<|vX O fun a hF=>?_
  refine az ?_
  have hA16:Hp w0 (XE2::R) w14:=hpS 2 [1] [0] hA15 rfl
  exact ⟨j+1,ag,ev2,XE2,ag,(by rw [kJ]; exact hE2),hF.keep [8,3,0] rfl,hA16⟩
 ·refine aS hF O (dD ag) ?_
  obtain rfl:j=256:=by omega
  apply wp_exit
  refine hK3 _ _ ?_
  refine wS hF fun K9 hK9=>vX O<|vX O<|vE hK9 fun a hF=>?_
  apply wp_ret
  refine aO hF Tryz.results59 O ?_
  exact ⟨ev,XE,rfl,hE,hA6⟩
theorem Ad {B W Z:List Value} {k m z:Nat} (hW:W.length=m*z) (h:k*z+z≤m*z):((B++W++Z).drop (B.length+k*z)).take z=(W.drop (k*z)).take z:=by
 rw [List.append_assoc,← List.drop_drop,List.drop_left,List.drop_append_of_le_length ag,List.take_append_of_le_length (by rw [List.length_drop]; omega)]
theorem F5 (w0 w:World) (R G:List Seg) (hG:G⊆R) (p:Prf) (sA:Option Addr) (sC:Nat) (width:Int) (hp:p.OK) (hT:Tab w0) (hS:Rc w0 G sA (fF p.ss)) (hA:Hp w0 R w):Calls Tryz.prog 43 #[.agg (p.cells (.slice sA p.ss.length sC)).toArray,.int .i64 width] w fun e w'=>∃ v X,e= .returned (.tuple #[v,.int .i64 ((p.err width:Nat):Int)])∧(p.err width=0→∃ A c,v= .slice A 256 c∧256≤c∧Buf 25 32 X v 256 (dM (p.side width) 256))∧Hp w0 (X::R) w':=by
 refine aJ Tryz.func43 O Tryz.ntmps43 ai (fun a hF=>?_)
 refine wp_seq_k fun K1 hK1=>wp_region_lit ?_
 refine au O (fun K hK=>bC (cs:=p.cells (.slice sA p.ss.length sC)) hF O ae rfl hA O (fun b1 w2 a hb1 hF hA3=>hK _ _ ?_))
 refine vR hF<|vX O<|vX O<|vE hK1<|wQ fun K2 hK2=>wT fun K3 hK3=>vV O (aT O hA3.q O 0 O OL (by rw [Prf.c_len hp]; decide) (Prf.c_all hp)) fun a hF=>?_
 refine au O (fun K hK=>ax hF O ae PP rfl rfl ?_)
 with_reducible refine (HY w0 _ ([row b1 30 (p.cells (.slice sA p.ss.length sC))]::R) p sA sC hp hA3).mono ?_
 rintro e' w4 ⟨rfl,hA5⟩
 refine ⟨_,rfl,fun a hF=>hK _ _ ?_⟩
 replace hA5:Hp w0 ([row b1 30 (p.cells (.slice sA p.ss.length sC))]::R) w4:=hA5
 refine vR hF<|vV O (eU O O O)<|vE hK3 fun a hF=>?_
 by_cases hf:p.formed=true
 ·refine aS hF O (by rw [hf]; rfl) ?_
  apply wp_skip
  refine hK2 _ _ ?_
  refine wS hF fun K4 hK4=>vX O fun a hF=>?_
  refine au O (fun K hK=>ax hF O ae PN rfl rfl ?_)
  with_reducible refine (qH w0 _ ([row b1 30 (p.cells (.slice sA p.ss.length sC))]::R) width hT hA5).mono ?_
  rintro e' w6 ⟨ev,XE,rfl,hE,hA7⟩
  refine ⟨_,rfl,fun a hF=>hK _ _ ?_⟩
  replace hA7:Hp w0 (XE::[row b1 30 (p.cells (.slice sA p.ss.length sC))]::R) w6:=hA7
  obtain ⟨AE,cE,rfl,hcE,_⟩:=hE.cap
  refine vR hF<|vV O (ed O Tu uX O (.none 0) (.some rfl (rfl:(256:Int)=((256:Nat):Int))) (Tv _) (Nat.le_trans (Nat.le_succ 256) hcE) dU)<|vX O fun a hF=>?_
  refine az ?_
  have hE0:Buf 25 32 XE (.slice AE 256 cE) 256 (dM (p.row width 0) 256):=by
   have h1:=hE.cut (n:=256) ae
   rwa [Ja (aK width) 256 1 (fun i _=>bZ _ _),← p.row0 width] at h1
  refine hK4 _ _ ?_
  refine wS hF fun K5 hK5=>vX O<|vE hK5<|wQ fun K6 hK6=>wT fun K7 hK7=>vX O<|vV O (aY O Tu O O)<|vX O<|vE hK7<|wBk fun a hF=>?_
  refine bQ (G:=Nat) (fun h a x=>∃ (X:Seg),h≤256∧p.bad width h=false∧Buf 25 32 X (.slice AE 256 cE) 256 (dM (p.row width h) 256)∧Fr 57 [(18,.int .i64 (h:Int)),(7,.int .i64 ((dh p.bs h:Nat):Int)),(1,.int .i64 width),(2,.pointer (some ⟨b1,0,none⟩)),(6,.slice AE 256 cE),(17,.int .i64 256)] a∧Hp w0 (X::[row b1 30 (p.cells (.slice sA p.ss.length sC))]::R) x) (fun h=>256-h) 0 (⟨XE,Tv _,rfl,hE0,hF.keep [18,7,1,2,6,17] rfl,hA7⟩) ?_
  clear hF
  rintro h a w9 ⟨X,hh,hbad,hB,hF,hA8⟩
  refine wS hF fun K8 hK8=>vV O (aH O O O O O)<|vE hK8<|wQ fun K9 hK9 a hF=>?_
  by_cases hlt:h<256
  ·refine aZ hF O (dB ag) ?_
   apply wp_skip
   refine hK9 _ _ ?_
   apply wp_seq_k; intro K10 hK10
   apply wp_block
   refine wS hF fun K11 hK11=>vX O<|vX O<|vE hK11<|wQ fun K12 hK12=>wT fun K13 hK13=>vX O<|vV O (mQ O O O ae (CB h hlt))<|vV O (yf 34 rfl TW O BA O)<|vV O (aP O Ub D5 rfl rfl (h/8) rfl ag (ad2 _ _ _) (rfl:(none:Option Nat)=none))<|vV O (aX O hA8.q O 1 O (Prf.c_bit hp ag) Aq)<|vX O<|vV O (fO O O O ae (EP h))<|vV O (mP O O O ag (BJ _ (h%8) ag))<|vV O (uy O O O (Qn p.bs h))<|vV O (aH O O O O (Pv p.bs h))<|vE hK13 fun a hF=>?_
   by_cases hb:iF p.bs h=true
   ·refine aS hF O (by rw [hb]; rfl) ?_
    obtain ⟨hsl,hsat⟩:=Prf.dig_at hf hb hlt
    have hdl:(p.dig h).length=32:=Prf.dig_length hp hf hb hlt
    have hddl:(dc (p.dig h)).length=32:=by rw [aj,hdl]
    obtain ⟨hsr,hsr2⟩:=JY hp hsat
    obtain ⟨b,q,hsA,hc⟩:=hS.ne (i:=dh p.bs h*32) ag
    have ho:dh p.bs (h+1)=dh p.bs h+1:=by show dh p.bs h+jo p.bs h=_; rw [sZ hb]
    have hol:=mG p.bs h
    have hrl:∀ i,i<256→(p.row width h i).length=32:=fun i _=>Prf.row_length hp hf width hh i
    obtain ⟨gE,BE,ZE,cE2,hvE,rfl,hWE,hiE,hsetE⟩:=hB.setRow (i:=h) (V:=dc (p.dig h)) hlt (by rw [aj,hdl])
    have hAE:AE=some ⟨gE,BE.length,none⟩:=by injection hvE
    obtain ⟨hrd,hle⟩:=iY (p.row width h) 256 h hrl hlt
    rw [p.row_at width h] at hrd
    apply wp_skip
    refine hK12 _ _ ?_
    refine wS hF fun K14 hK14=>vV O (yf 66 rfl TW O rC O)<|vV O (aX O hA8.q O 1 O (Prf.c_sums hp) rQ)<|vX O<|vV O (bi O Tu uX (by exact congrArg (fun A=>some (Value.slice A p.ss.length sC)) hsA) rfl (dh p.bs h) rfl hsl rfl) fun a hF=>?_
    refine vR hF<|vV O (aQ O (Hq.sub hA8.q (List.Subset.trans hG (aA (aA (bu))))) O hc (dh p.bs h*32) hsr2 rfl hsr vw) fun a hF=>?_
    refine au O (fun K hK=>bG hF O ae rfl hA8 (jE) (fun b10 w11 a hb10 hF hA12=>hK _ _ ?_))
    refine au O (fun K hK=>aI (new:=dc (p.dig h)) hF O O hA12 O O 0 O (by rw [aj,hdl]; rfl) (bz _) uX (fun w13 hA14=>hK _ _ ?_))
    replace hA14:Hp w0 ([row b10 25 (dc (p.dig h))]::[row gE 25 (BE++dM (p.row width h) 256++ZE)]::[row b1 30 (p.cells (.slice sA p.ss.length sC))]::R) w13:=hA14
    refine az<|hK14 _ _ ?_
    refine wS hF fun K15 hK15=>vX O<|vV O (bH O O O (show IntKind.i64.wrap (((dh p.bs h:Nat):Int)+1)=((dh p.bs (h+1):Nat):Int) by rw [TB _ ag,ho]; omega)) fun a hF=>?_
    refine vR hF<|vX O<|vE hK15<|wQ fun K16 hK16=>wQ fun K17 hK17 a hF=>?_
    by_cases heq:p.dig h=aK width h
    ·refine ak 12 [9,12] [0,1,2,3,4,5,6,7,8,10,9,11,12] _ af af (Hq.drew hA14.q) ?_
     have hA15:=Hl.drew hA14
     refine pR hF<|pV O O (fun x hx=>yZ (new:=dc (p.dig h)) O hx O 0 O vw hddl)<|pX O O<|pX O O<|pW O O (fun _=>bi O Tu uX (by exact congrArg (fun A=>some (Value.slice A 256 cE)) hAE) rfl h rfl hlt rfl) fun a hF=>?_
     refine pR hF<|pV O O (fun x hx=>aT (new:=dc (aK width h)) O hx O 1 O vw (by rw [List.length_append,List.length_append,hWE]; omega) (by rw [Ad hWE hiE]; exact hrd)) fun a hF=>?_
     refine pR hF<|pW O O (fun _=>oM O Tz TA D5 af rfl rfl hdl (bZ _ _) (decide_eq_true heq))<|pX O O<|pS O O<|pS O O<|pS O O fun a hF=>?_
     refine vW hF O O O O O O O O ae (hA15.q) (fun a hF=>?_)
     refine pR hF<|pS O O fun a hF=>?_
     refine bY hF O O O O ae _ (bg O O O) (fun h=>absurd h ae) (fun a hF=>?_)
     refine aB ?_
     refine hK17 _ _ ?_
     have hbt:p.badAt width h=true:=by unfold Prf.badAt; rw [hb]; simp [heq]
     refine eP hF O ?_
     refine wS hF fun K18 hK18=>vX O<|vX O<|vE hK18 fun a hF=>?_
     apply wp_ret
     simp only [Exit.then,Exit.inBlock]
     refine jr hF Tryz.results43 O O ?_
     have hA16:Hp w0 (R) w13.drew:=hpS 3 [] [0,1,2] hA15 rfl
     exact ⟨_,[],by rw [Prf.err_bad hf hbt hlt]; rfl,(fun h=>by rw [Prf.err_bad hf hbt hlt] at h; cases h),Hp.nil hA16⟩
    ·by_cases hcut:gZ (p.dig h) width=p.dig h
     ·have hb1:p.bad width (h+1)=false:=by show (p.bad width h || p.badAt width h)=false; rw [hbad]; unfold Prf.badAt; rw [hb,decide_eq_false heq,decide_eq_false (fun x=>x hcut)]; rfl
      refine ak 12 [9,12] [0,1,2,3,4,5,6,7,8,10,9,11,12] _ af af (Hq.drew hA14.q) ?_
      have hA17:=Hl.drew hA14
      refine pR hF<|pV O O (fun x hx=>yZ (new:=dc (p.dig h)) O hx O 0 O vw hddl)<|pX O O<|pX O O<|pW O O (fun _=>bi O Tu uX (by exact congrArg (fun A=>some (Value.slice A 256 cE)) hAE) rfl h rfl hlt rfl) fun a hF=>?_
      refine pR hF<|pV O O (fun x hx=>aT (new:=dc (aK width h)) O hx O 1 O vw (by rw [List.length_append,List.length_append,hWE]; omega) (by rw [Ad hWE hiE]; exact hrd)) fun a hF=>?_
      refine pR hF<|pW O O (fun _=>oM O Tz TA D5 af rfl rfl hdl (bZ _ _) (decide_eq_false heq))<|pX O O fun a hF=>?_
      refine dX hF O O O O O O O ae _ (fun x hx=>yZ (new:=dc (p.dig h)) O hx O 0 O vw hddl) (fun a hF=>?_)
      refine pR hF<|pG O O (fun _=>bT O O) fun a hF=>?_
      refine dX hF O O O O O O O ae _ (fun x hx=>yZ (new:=dc (p.dig h)) O hx O 0 O vw hddl) (fun a hF=>?_)
      refine lX hF O O O O O O (fun K hK=>ax hF O ae PX rfl rfl ?_)
      with_reducible refine (wG w0 _ ([row b10 25 (dc (p.dig h))]::[row gE 25 (BE++dM (p.row width h) 256++ZE)]::[row b1 30 (p.cells (.slice sA p.ss.length sC))]::R) (p.dig h) width hdl hA17).mono ?_
      rintro e' w18 ⟨rfl,hA19⟩
      refine ⟨_,rfl,fun a hF=>hK _ _ (fun _=>?_) ?_⟩
      ·exact hA19.q
      replace hA19:Hp w0 ([row b10 25 (dc (p.dig h))]::[row gE 25 (BE++dM (p.row width h) 256++ZE)]::[row b1 30 (p.cells (.slice sA p.ss.length sC))]::R) w18:=hA19
      refine pR hF<|pG O O (fun _=>kS O Tz TA D5 af rfl rfl (dJ _ _ hdl) hdl (show (!decide (gZ (p.dig h) width=p.dig h))=false by simp [hcut])) fun a hF=>?_
      refine bY hF O O O O ae _ (bg O O O) (fun h=>absurd h ae) (fun a hF=>?_)
      refine aB ?_
      refine hK17 _ _ ?_
      refine dL hF O ?_
      apply wp_skip
      refine hK16 _ _ ?_
      refine wp_region_lit ?_
      refine vR hF<|vX O<|vX O<|vV O (yZ (new:=dc (p.dig h)) O hA19.q O 0 O vw hddl)<|vV O (bi O Tu uX (by exact congrArg (fun A=>some (Value.slice A 256 cE)) hAE) rfl h rfl hlt rfl) fun a hF=>?_
      refine au O (fun K hK=>dE (new:=dc (p.dig h)) hF O O hA19 O O 1 O (by rw [List.length_append,List.length_append,hWE,aj,hdl]; omega) (bz _) (by rw [aj,hdl]; exact uX) (fun w20 hA21=>hK _ _ ?_))
      replace hA21:Hp w0 ([row b10 25 (dc (p.dig h))]::[row gE 25 (splice (BE++dM (p.row width h) 256++ZE) (BE.length+h*32) (dc (p.dig h)))]::[row b1 30 (p.cells (.slice sA p.ss.length sC))]::R) w20:=hA21
      refine az<|hK10 _ _ ?_
      refine wp_region_lit ?_
      refine vR hF<|vV O (bH O O O (TB _ ag))<|vX O fun a hF=>?_
      refine az ?_
      have hput:=Prf.row_put hp hf width hb hlt 256 hlt []
      rw [List.append_nil,List.append_nil] at hput
      rw [hput] at hsetE
      have hA22:Hp w0 ([row gE 25 (splice (BE++dM (p.row width h) 256++ZE) (BE.length+h*32) (dc (p.dig h)))]::[row b1 30 (p.cells (.slice sA p.ss.length sC))]::R) w20:=hpS 3 [1,2] [0] hA21 rfl
      exact ⟨h+1,ag,_,ag,hb1,hsetE,hF.keep [18,7,1,2,6,17] rfl,hA22⟩
     ·refine ak 12 [9,12] [0,1,2,3,4,5,6,7,8,10,9,11,12] _ af af (Hq.drew hA14.q) ?_
      have hA23:=Hl.drew hA14
      refine pR hF<|pV O O (fun x hx=>yZ (new:=dc (p.dig h)) O hx O 0 O vw hddl)<|pX O O<|pX O O<|pW O O (fun _=>bi O Tu uX (by exact congrArg (fun A=>some (Value.slice A 256 cE)) hAE) rfl h rfl hlt rfl) fun a hF=>?_
      refine pR hF<|pV O O (fun x hx=>aT (new:=dc (aK width h)) O hx O 1 O vw (by rw [List.length_append,List.length_append,hWE]; omega) (by rw [Ad hWE hiE]; exact hrd)) fun a hF=>?_
      refine pR hF<|pW O O (fun _=>oM O Tz TA D5 af rfl rfl hdl (bZ _ _) (decide_eq_false heq))<|pX O O fun a hF=>?_
      refine dX hF O O O O O O O ae _ (fun x hx=>yZ (new:=dc (p.dig h)) O hx O 0 O vw hddl) (fun a hF=>?_)
      refine pR hF<|pG O O (fun _=>bT O O) fun a hF=>?_
      refine dX hF O O O O O O O ae _ (fun x hx=>yZ (new:=dc (p.dig h)) O hx O 0 O vw hddl) (fun a hF=>?_)
      refine lX hF O O O O O O (fun K hK=>ax hF O ae PX rfl rfl ?_)
      with_reducible refine (wG w0 _ ([row b10 25 (dc (p.dig h))]::[row gE 25 (BE++dM (p.row width h) 256++ZE)]::[row b1 30 (p.cells (.slice sA p.ss.length sC))]::R) (p.dig h) width hdl hA23).mono ?_
      rintro e' w24 ⟨rfl,hA25⟩
      refine ⟨_,rfl,fun a hF=>hK _ _ (fun _=>?_) ?_⟩
      ·exact hA25.q
      replace hA25:Hp w0 ([row b10 25 (dc (p.dig h))]::[row gE 25 (BE++dM (p.row width h) 256++ZE)]::[row b1 30 (p.cells (.slice sA p.ss.length sC))]::R) w24:=hA25
      refine pR hF<|pG O O (fun _=>kS O Tz TA D5 af rfl rfl (dJ _ _ hdl) hdl (show (!decide (gZ (p.dig h) width=p.dig h))=true by simp [hcut])) fun a hF=>?_
      refine bY hF O O O O ae _ (bg O O O) (fun h=>absurd h ae) (fun a hF=>?_)
      refine aB ?_
      refine hK17 _ _ ?_
      have hbt:p.badAt width h=true:=by unfold Prf.badAt; rw [hb]; simp [hcut]
      refine eP hF O ?_
      refine wS hF fun K19 hK19=>vX O<|vX O<|vE hK19 fun a hF=>?_
      apply wp_ret
      simp only [Exit.then,Exit.inBlock]
      refine jr hF Tryz.results43 O O ?_
      have hA26:Hp w0 (R) w24:=hpS 3 [] [0,1,2] hA25 rfl
      exact ⟨_,[],by rw [Prf.err_bad hf hbt hlt]; rfl,(fun h=>by rw [Prf.err_bad hf hbt hlt] at h; cases h),Hp.nil hA26⟩
   ·have hb0:iF p.bs h=false:=by simpa using hb
    have hb1:p.bad width (h+1)=false:=by show (p.bad width h || p.badAt width h)=false; rw [hbad]; unfold Prf.badAt; rw [hb0]; rfl
    have ho:dh p.bs (h+1)=dh p.bs h:=by show dh p.bs h+jo p.bs h=_; rw [vN hb0]; rfl
    refine aZ hF O (by rw [hb0]; rfl) ?_
    apply wp_exit
    refine hK10 _ _ ?_
    refine wp_region_lit ?_
    refine vR hF<|vV O (bH O O O (TB _ ag))<|vX O fun a hF=>?_
    refine az ?_
    rw [← ho] at hF
    exact ⟨h+1,ag,X,ag,hb1,(by rw [Prf.row_no hb0]; exact hB),hF.keep [18,7,1,2,6,17] rfl,hA8⟩
  ·refine aS hF O (dD ag) ?_
   obtain rfl:h=256:=by omega
   apply wp_exit
   refine hK6 _ _ ?_
   refine wS hF fun K20 hK20=>vX O<|vX O<|vX O<|vE hK20 fun a hF=>?_
   apply wp_ret
   refine jr hF Tryz.results43 O O ?_
   have hA27:Hp w0 (X::R) w9:=hpS 2 [0] [1] hA8 rfl
   exact ⟨_,X,by rw [Prf.err_ok hf hbad]; rfl,(fun _=>⟨AE,cE,rfl,ag,by rw [← oK (f:=p.row width 256) (g:=p.side width) (fun i hi=>by unfold Prf.row; rw [if_pos hi])]; exact hB⟩),hA27⟩
 ·have hfn:p.formed=false:=by simpa using hf
  refine aZ hF O (by rw [hfn]; rfl) ?_
  refine wS hF fun K21 hK21=>vX O<|vX O<|vE hK21 fun a hF=>?_
  apply wp_ret
  simp only [Exit.then]
  refine jr hF Tryz.results43 O O ?_
  have hA28:Hp w0 (R) w4:=hpS 1 [] [0] hA5 rfl
  exact ⟨_,[],by rw [Prf.err_form hfn]; rfl,(fun h=>by rw [Prf.err_form hfn] at h; cases h),Hp.nil hA28⟩
end Go.Proofs.YtpomngkcfbnjoaaGreatDoor
