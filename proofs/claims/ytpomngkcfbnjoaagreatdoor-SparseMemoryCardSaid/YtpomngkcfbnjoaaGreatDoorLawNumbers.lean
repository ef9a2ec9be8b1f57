/- The walk of SparseNumbers. -/
import Derived.Test.YtpomngkcfbnjoaaGreatDoorSp9
import Derived.Test.YtpomngkcfbnjoaaGreatDoorTwo
/- The walk of SparseNumbers. -/
set_option maxRecDepth 100000
set_option maxHeartbeats 2000000
namespace Go.Proofs.YtpomngkcfbnjoaaGreatDoor
open Go.RowKit Go.Dk
theorem uB (w0 w:World) (R:List Seg) (width:Int) (hA:Hp w0 R w):Calls Tryz.prog 39 #[.int .i64 width] w fun e w'=>∃ A c Z,e= .returned (.slice A 257 c)∧Rc w0 [Z] A (dM (aK width) 257)∧Hp w0 (Z::R) w':=by
 refine (uJ w width).mono ?_
 rintro e w' ⟨v,X,rfl,hO,hw⟩
 obtain ⟨g,c,Z,rfl,_,hg,rfl⟩:=Aj hO ae
 exact ⟨some ⟨g,0,none⟩,c,_,rfl,Rc.ofRow (i:=0) (off:=0) rfl (by rw [List.drop_zero]; exact List.take_left' rfl),hA.thenNew hw (xE hg)⟩
theorem Le {l:List Itm} (h:∀ i∈l,i.OK):(cel Itm.cells l).length=l.length*65:=nH (fun i hi=>Itm.len (h i hi))
theorem fE {l:List Itm} (h:∀ i∈l,i.OK) {n:Nat} {i:Itm} (hn:l[n]? = some i):((cel Itm.cells l).drop (n*65)).take 65=i.cells∧n*65+65≤(cel Itm.cells l).length:=xZ (fun i hi=>Itm.len (h i hi)) hn
theorem QW {W:List Value} {m:Nat}:(W.drop m).take 32=((W.drop m).take 65).take 32:=by rw [List.take_take]; rfl
theorem RY {W:List Value} {m:Nat}:(W.drop (m+32)).take 33=(((W.drop m).take 65).drop 32).take 33:=by
 rw [List.drop_take,List.take_take,List.drop_drop]; rfl
theorem jM {l:List Itm} (h:∀ i∈l,i.OK) {n:Nat} {i:Itm} (hn:l[n]? = some i):((cel Itm.cells l).drop (n*65)).take 32=dc i.k:=by
 rw [QW,(fE h hn).1]; exact Itm.c_key (h i (List.mem_of_getElem? hn))
theorem xg {l:List Itm} (h:∀ i∈l,i.OK) {n:Nat} {i:Itm} (hn:l[n]? = some i):((cel Itm.cells l).drop (n*65+32)).take 33=i.ent:=by
 rw [RY,(fE h hn).1]; exact Itm.c_ent (h i (List.mem_of_getElem? hn))
theorem vZ {p:Itm→Bool}:∀ {l:List Itm} {n:Nat},n≤l.length→(∀ j i,j<n→l[j]? = some i→p i=true)→(∀ i,l[n]? = some i→p i=false)→l.takeWhile p=l.take n∧l.dropWhile p=l.drop n
 | [],n,hn,_,_=>by simp
 | i::l,0,_,_,h2=>by
  have h3:=h2 i rfl
  have h4:¬ p i=true:=by rw [h3]; exact Bool.false_ne_true
  rw [List.takeWhile_cons_of_neg h4,List.dropWhile_cons_of_neg h4]; exact ⟨rfl,rfl⟩
 | i::l,n+1,hn,h1,h2=>by
  have h3:=h1 0 i (Nat.succ_pos _) rfl
  obtain ⟨e1,e2⟩:=vZ (p:=p) (l:=l) (n:=n) (by simpa using hn) (fun j i' hj hi=>h1 (j+1) i' ag hi) (fun i' hi=>h2 i' hi)
  rw [List.takeWhile_cons_of_pos h3,List.dropWhile_cons_of_pos h3,e1,e2]; exact ⟨rfl,rfl⟩
theorem FZ {width:Int} {h:Nat} {l:List Itm} (hl:l≠[]):dQ width (h+1) l=ik width (dQ width h (l.takeWhile (iW (255-h)))) (dQ width h (l.dropWhile (iW (255-h)))):=by
 cases l with
 | nil=>exact absurd rfl hl
 | cons i l=>exact lN width h i l
theorem iD (width:Int) (h:Nat) (l:List Itm):(dQ width h l).length=32:=by
 cases l with
 | nil=>rw [iw]; exact bZ _ _
 | cons i l =>
  cases h with
  | zero=>rw [lM]; exact jl _ _
  | succ h=>rw [lN]; exact jW ..
theorem Gh {w0:World} {R:List Seg} {A:Option Addr} {l:List Itm} (n:Nat) (h:∀ i∈l,i.OK) (hR:Rc w0 R A (cel Itm.cells l)):Rc w0 R A (cel Itm.cells (l.take n)):=by
 have e:cel Itm.cells l=cel Itm.cells (l.take n)++cel Itm.cells (l.drop n):=by rw [← je,List.take_append_drop]
 have h1:=hR.take (cel Itm.cells (l.take n)).length
 rw [e,List.take_left' rfl] at h1
 exact h1
theorem Gj {w0:World} {R:List Seg} {A:Option Addr} {l:List Itm} (n c:Nat) (h:∀ i∈l,i.OK) (hn:n≤l.length) (hc:l.length≤c) (hR:Rc w0 R A (cel Itm.cells l)):Rc w0 R (sub A n c 65) (cel Itm.cells (l.drop n)):=by
 have h1:=hR.drop n 65 (cap:=c) (by rw [Le h]; exact Nat.mul_le_mul_right _ hc)
 have e:cel Itm.cells l=cel Itm.cells (l.take n)++cel Itm.cells (l.drop n):=by rw [← je,List.take_append_drop]
 have h2:(cel Itm.cells (l.take n)).length=n*65:=by rw [Le (fun i hi=>h i (List.mem_of_mem_take hi)),List.length_take,Nat.min_eq_left hn]
 rw [e,List.drop_left' h2] at h1
 exact h1
theorem Lh (f g:Nat→UInt8) (c:Int) (w:World):(Instr.build 49 #[(0,.agg (dc ((List.range 32).map f)).toArray),(1,.agg (.int .i64 c::dc ((List.range 32).map g)).toArray)]).run Tryz.prog w= .ok (.agg (Itm.cells ⟨(List.range 32).map f,c,(List.range 32).map g⟩).toArray) w:=af
theorem Gi {i:Itm} (h:i.OK) (w:World):(Instr.build 49 #[(0,.agg (dc i.k).toArray),(1,.agg (.int .i64 i.ct::dc i.ch).toArray)]).run Tryz.prog w= .ok (.agg i.cells.toArray) w:=by
 have h1:=Lh (bAt i.k) (bAt i.ch) i.ct w
 rw [lu h.k,lu h.ch] at h1
 exact h1
theorem Ij (f g:Nat→UInt8) (c:Int) (w:World):(Instr.buildSlice 31 1 #[(0,.agg (Itm.cells ⟨(List.range 32).map f,c,(List.range 32).map g⟩).toArray)]).run Tryz.prog w= .ok (.slice (some ⟨w.heap.size,0,none⟩) 1 1) (w.alloc (.cells (Itm.cells ⟨(List.range 32).map f,c,(List.range 32).map g⟩).toArray 49)):=af
theorem mg {i:Itm} (h:i.OK) (w:World):(Instr.buildSlice 31 1 #[(0,.agg i.cells.toArray)]).run Tryz.prog w= .ok (.slice (some ⟨w.heap.size,0,none⟩) 1 1) (w.alloc (.cells i.cells.toArray 49)):=by
 have h1:=Ij (bAt i.k) (bAt i.ch) i.ct w
 rw [lu h.k,lu h.ch] at h1
 exact h1
theorem kU:(Tryz.prog.info? 49).map (·.size)=some 65:=af
theorem Nk:aG Tryz.prog 39:=⟨_,Tryz.func39,af,af⟩
theorem DN:aG Tryz.prog 51:=⟨_,Tryz.func51,af,af⟩
theorem o9:aG Tryz.prog 42:=⟨_,Tryz.func42,af,af⟩
theorem MX:aG Tryz.prog 67:=⟨_,Tryz.func67,af,af⟩
theorem Ld (w0:World) (G:List Seg) (width:Int) (AE:Option Addr) (cE:Nat) (hE:Rc w0 G AE (dM (aK width) 257)):∀ (h:Nat) (_hh:h≤256) (w:World) (R:List Seg) (_hG:G⊆R) (A:Option Addr) (l:List Itm) (c:Nat) (_hlc:l.length≤c) (_hcm:l.length≤9223372036854775807) (_hI:∀ i∈l,i.OK) (_hL:Rc w0 G A (cel Itm.cells l)) (_hA:Hp w0 R w),
  Calls Tryz.prog 42 #[.int .i64 width,.slice A l.length c,.int .i64 ((256-h:Nat):Int),.slice AE 257 cE] w fun e w'=>e= .returned (.agg (dc (dQ width h l)).toArray)∧Hp w0 R w':=by
 intro h
 induction h with
 | zero =>
  intro hh w R hG A l c hlc hcm hI hL hA
  rw [show 256-0=256 from rfl]
  have hdle:=bZ width
  have hds:(dc (dQ width 0 l)).length=32:=by rw [aj,iD]
  refine aJ Tryz.func42 O Tryz.ntmps42 ai (fun a hF=>?_)
  refine wp_seq_k fun K1 hK1=>wp_region_lit ?_
  refine au O (fun K hK=>bG hF O ae rfl hA (jE) (fun b1 w2 a hb1 hF hA3=>hK _ _ ?_))
  refine az<|hK1 _ _ ?_
  apply wp_seq_k; intro K2 hK2
  apply wp_seq_k; intro K3 hK3
  by_cases hl0:l=[]
  ·have hse:dQ width 0 l=aK width 0:=by rw [hl0,iw]
   have hlz:l.length=0:=by rw [hl0]; rfl
   refine wp_region_lit ?_
   refine vR hF<|vX O<|vV O (aY O TT O O)<|vV O (aH O O O O (gJ ag))<|vE hK3<|vT1 O fun a hF=>?_
   obtain ⟨herd,hele⟩:=iY (aK width) 257 0 (fun i _=>hdle i) ag
   obtain ⟨be_,qe,hAE,hce⟩:=hE.ne (i:=0*32) ag
   refine wS hF fun K4 hK4=>vX O<|vX O<|vV O (dm O O O (show IntKind.i64.wrap (256-((256:Nat):Int))=((0:Nat):Int) by rw [TB _ ag]; omega)) fun a hF=>?_
   refine vR hF<|vV O (bi O Tu uX (by exact congrArg (fun A=>some (Value.slice A 257 cE)) hAE) rfl 0 O ag rfl) fun a hF=>?_
   refine vR hF<|vV O (aQ O (Hq.sub hA3.q (List.Subset.trans hG (aA (bu)))) O hce (0*32) hele rfl (show List.take 32 (List.drop (0*32) (dM (aK width) 257))=dc (dQ width 0 l) by rw [hse]; exact herd) vw) fun a hF=>?_
   refine au O (fun K hK=>aI (new:=dc (dQ width 0 l)) hF O O hA3 O O 0 O (by rw [hds]; rfl) (bz _) (by exact uX) (fun w4 hA5=>hK _ _ ?_))
   replace hA5:Hp w0 ([row b1 25 (dc (dQ width 0 l))]::R) w4:=hA5
   refine az<|hK4 _ _ ?_
   apply wp_ret
   simp only [Exit.then]
   refine fD hF Tryz.results42 hA5.q O 0 O (by rw [hds]; exact vw) ?_
   have hA6:Hp w0 (R) w4:=hpS 1 [] [0] hA5 rfl
   exact ⟨rfl,hA6⟩
  ·have hpos:0<l.length:=List.length_pos_iff.2 hl0
   refine wp_region_lit ?_
   refine vR hF<|vX O<|vV O (aY O TT O O)<|vV O (aH O O O O (fJ ag))<|vE hK3<|vF1 O<|wKp hK2<|wQ fun K5 hK5=>wT fun K6 hK6=>vX O<|vV O (aH O O O O (gJ ag))<|vE hK6<|vT1 O fun a hF=>?_
   obtain ⟨i,hi0⟩:∃ i,l[0]? = some i:=⟨_,List.getElem?_eq_getElem hpos⟩
   have hiK:=hI i (List.mem_of_getElem? hi0)
   have hse:entryD width i=dQ width 0 l:=by
    cases l with
    | nil=>exact absurd rfl hl0
    | cons i' l'=>rw [lM]; cases hi0; rfl
   obtain ⟨hra,hrb⟩:=fE hI hi0
   obtain ⟨b,q,hA2,hc⟩:=hL.ne (i:=0*65) ag
   apply wp_seq_k; intro K7 hK7
   refine ak 10 [9,10] [0,1,2,3,4,5,6,7,8,9,10] _ af af (Hq.drew hA3.q) ?_
   have hA7:=Hl.drew hA3
   refine pR hF<|pX O O<|pX O O<|pW O O (fun _=>bi O TT kU (by exact congrArg (fun A=>some (Value.slice A l.length c)) hA2) rfl 0 O hpos rfl) fun a hF=>?_
   refine pR hF<|pW O O (fun _=>gm O TZ O uX ae rfl (rfl:(⟨_,_+_,none⟩:Addr)=⟨b,q+0*65+0,none⟩))<|pV O O (fun x hx=>aQ O (Hq.sub hx (List.Subset.trans hG (aA (bu)))) O hc (0*65) ag rfl (jM hI hi0) vw)<|pX O O<|pW O O (fun _=>bi O TT kU (by exact congrArg (fun A=>some (Value.slice A l.length c)) hA2) rfl 0 O hpos rfl) fun a hF=>?_
   refine pR hF<|pW O O (fun _=>gm O TZ O Bz ae rfl (rfl:(⟨_,_+_,none⟩:Addr)=⟨b,q+0*65+32,none⟩))<|pV O O (fun x hx=>aQ O (Hq.sub hx (List.Subset.trans hG (aA (bu)))) O hc (0*65+32) ag ag (xg hI hi0) BN) fun a hF=>?_
   refine bM O O O (fun K hK=>ax hF O ae MX rfl rfl ?_)
   with_reducible refine (Ho w0 _ ([row b1 25 (dc (List.replicate 32 0))]::R) width i.ct i.k i.ch hiK.k hiK.ch hA7).mono ?_
   rintro e' w8 ⟨rfl,hA9⟩
   refine ⟨_,rfl,fun a hF=>hK _ _ (fun _=>?_) ?_⟩
   ·exact hA9.q
   replace hA9:Hp w0 ([row b1 25 (dc (List.replicate 32 0))]::R) w8:=hA9
   rw [show ofL width 3 (i.k++be 8 (c64 i.ct)++i.ch)=dQ width 0 l from hse] at hF
   refine bM O O O (fun K hK=>aI (new:=dc (dQ width 0 l)) hF O O hA9 O O 0 O (by rw [hds]; rfl) (bz _) (by exact uX) (fun w10 hA11=>hK _ _ (fun h=>absurd h ae) ?_))
   replace hA11:Hp w0 ([row b1 25 (dc (dQ width 0 l))]::R) w10:=hA11
   refine aB ?_
   refine hK7 _ _ ?_
   apply wp_ret
   simp only [Exit.then]
   refine fD hF Tryz.results42 hA11.q O 0 O (by rw [hds]; exact vw) ?_
   have hA12:Hp w0 (R) w10:=hpS 1 [] [0] hA11 rfl
   exact ⟨rfl,hA12⟩
 | succ h ih =>
  intro hh w R hG A l c hlc hcm hI hL hA
  rw [show 256-(h+1)=255-h by omega]
  have hdle:=bZ width
  have hds:(dc (dQ width (h+1) l)).length=32:=by rw [aj,iD]
  refine aJ Tryz.func42 O Tryz.ntmps42 ai (fun a hF=>?_)
  refine wp_seq_k fun K1 hK1=>wp_region_lit ?_
  refine au O (fun K hK=>bG hF O ae rfl hA (jE) (fun b1 w2 a hb1 hF hA3=>hK _ _ ?_))
  refine az<|hK1 _ _ ?_
  apply wp_seq_k; intro K2 hK2
  apply wp_seq_k; intro K3 hK3
  by_cases hl0:l=[]
  ·have hse:dQ width (h+1) l=aK width (h+1):=by rw [hl0,iw]
   have hlz:l.length=0:=by rw [hl0]; rfl
   refine wp_region_lit ?_
   refine vR hF<|vX O<|vV O (aY O TT O O)<|vV O (aH O O O O (gJ ag))<|vE hK3<|vT1 O fun a hF=>?_
   obtain ⟨herd,hele⟩:=iY (aK width) 257 (h+1) (fun i _=>hdle i) ag
   obtain ⟨be_,qe,hAE,hce⟩:=hE.ne (i:=(h+1)*32) ag
   refine wS hF fun K4 hK4=>vX O<|vX O<|vV O (dm O O O (show IntKind.i64.wrap (256-(((255-h):Nat):Int))=(((h+1):Nat):Int) by rw [TB _ ag]; omega)) fun a hF=>?_
   refine vR hF<|vV O (bi O Tu uX (by exact congrArg (fun A=>some (Value.slice A 257 cE)) hAE) rfl (h+1) rfl ag rfl) fun a hF=>?_
   refine vR hF<|vV O (aQ O (Hq.sub hA3.q (List.Subset.trans hG (aA (bu)))) O hce ((h+1)*32) hele rfl (show List.take 32 (List.drop ((h+1)*32) (dM (aK width) 257))=dc (dQ width (h+1) l) by rw [hse]; exact herd) vw) fun a hF=>?_
   refine au O (fun K hK=>aI (new:=dc (dQ width (h+1) l)) hF O O hA3 O O 0 O (by rw [hds]; rfl) (bz _) (by exact uX) (fun w4 hA5=>hK _ _ ?_))
   replace hA5:Hp w0 ([row b1 25 (dc (dQ width (h+1) l))]::R) w4:=hA5
   refine az<|hK4 _ _ ?_
   apply wp_ret
   simp only [Exit.then]
   refine fD hF Tryz.results42 hA5.q O 0 O (by rw [hds]; exact vw) ?_
   have hA6:Hp w0 (R) w4:=hpS 1 [] [0] hA5 rfl
   exact ⟨rfl,hA6⟩
  ·have hpos:0<l.length:=List.length_pos_iff.2 hl0
   refine wp_region_lit ?_
   refine vR hF<|vX O<|vV O (aY O TT O O)<|vV O (aH O O O O (fJ ag))<|vE hK3<|vF1 O<|wKp hK2<|wQ fun K5 hK5=>wT fun K6 hK6=>vX O<|vV O (aH O O O O (fJ ag))<|vE hK6<|vF1 O<|wKp hK5<|wT fun K7 hK7=>vX O<|vE hK7<|wQ fun K8 hK8=>wBk fun a hF=>?_
   refine bQ (G:=Nat) (fun n a x=>n≤l.length∧(∀ j i,j<n→l[j]? = some i→iW (255-h) i=true)∧Fr 64 [(9,.int .i64 (n:Int)),(0,.int .i64 width),(1,.slice A l.length c),(2,.int .i64 ((255-h:Nat):Int)),(3,.slice AE 257 cE),(8,.pointer (some ⟨b1,0,none⟩))] a∧Hp w0 ([row b1 25 (dc (List.replicate 32 0))]::R) x) (fun n=>l.length-n) 0 (⟨Tv _,(fun j i hj=>absurd hj (Nat.not_lt_zero _)),hF.keep [9,0,1,2,3,8] rfl,hA3⟩) ?_
   clear hF
   rintro n a w8 ⟨hn,hall,hF,hA7⟩
   by_cases hlt:n<l.length
   ·obtain ⟨i,hi⟩:∃ i,l[n]? = some i:=⟨_,List.getElem?_eq_getElem hlt⟩
    have hiK:=hI i (List.mem_of_getElem? hi)
    obtain ⟨hra,hrb⟩:=fE hI hi
    obtain ⟨b,q,hA2,hc⟩:=hL.ne (i:=n*65) ag
    have hkc:=oH i.k (255-h)
    by_cases hkb:bK i.k (255-h)=0
    ·apply wp_seq_k; intro K9 hK9
     refine wS hF fun K10 hK10=>vX O<|vX O<|vV O (aY O TT O O)<|vV O (aH O O O O (dB ag))<|vX O<|vG O (bT O O)<|vG O (bT O O)<|vG O (bi O TT kU (by exact congrArg (fun A=>some (Value.slice A l.length c)) hA2) rfl n rfl hlt rfl) fun a hF=>?_
     refine vR hF<|vG O (gm O TZ O uX ae rfl (rfl:(⟨_,_+_,none⟩:Addr)=⟨b,q+n*65+0,none⟩))<|vG O (aQ O (Hq.sub hA7.q (List.Subset.trans hG (aA (bu)))) O hc (n*65) ag rfl (jM hI hi) vw)<|vG O (bT O O) fun a hF=>?_
     refine lm hF O O O O (fun K hK=>ax hF O ae DN rfl rfl ?_)
     with_reducible refine (ng w0 _ ([row b1 25 (dc (List.replicate 32 0))]::R) i.k (255-h) hiK.k ag hA7).mono ?_
     rintro e' w9 ⟨rfl,hA10⟩
     refine ⟨_,rfl,fun a hF=>hK _ _ ?_⟩
     replace hA10:Hp w0 ([row b1 25 (dc (List.replicate 32 0))]::R) w9:=hA10
     refine vR hF<|vG O (aH O O O O (gJ ag))<|vV O (bg O O O)<|vE hK10<|vT1 O<|wKp hK9<|wBk fun a hF=>?_
     refine wp_region_lit ?_
     refine vR hF<|vX O<|vV O (bH O O O (TB _ ag))<|vX O fun a hF=>?_
     refine az ?_
     exact ⟨n+1,ag,ag,(fun j i2 hj hj2=>by rcases Nat.lt_or_ge j n with h3 | h3; exact hall j i2 h3 hj2; obtain rfl:j=n:=ag; rw [hi] at hj2; cases hj2; exact decide_eq_true hkb),hF.keep [9,0,1,2,3,8] rfl,hA10⟩
    ·apply wp_seq_k; intro K11 hK11
     refine wS hF fun K12 hK12=>vX O<|vX O<|vV O (aY O TT O O)<|vV O (aH O O O O (dB ag))<|vX O<|vG O (bT O O)<|vG O (bT O O)<|vG O (bi O TT kU (by exact congrArg (fun A=>some (Value.slice A l.length c)) hA2) rfl n rfl hlt rfl) fun a hF=>?_
     refine vR hF<|vG O (gm O TZ O uX ae rfl (rfl:(⟨_,_+_,none⟩:Addr)=⟨b,q+n*65+0,none⟩))<|vG O (aQ O (Hq.sub hA7.q (List.Subset.trans hG (aA (bu)))) O hc (n*65) ag rfl (jM hI hi) vw)<|vG O (bT O O) fun a hF=>?_
     refine lm hF O O O O (fun K hK=>ax hF O ae DN rfl rfl ?_)
     with_reducible refine (ng w0 _ ([row b1 25 (dc (List.replicate 32 0))]::R) i.k (255-h) hiK.k ag hA7).mono ?_
     rintro e' w11 ⟨rfl,hA12⟩
     refine ⟨_,rfl,fun a hF=>hK _ _ ?_⟩
     replace hA12:Hp w0 ([row b1 25 (dc (List.replicate 32 0))]::R) w11:=hA12
     refine vR hF<|vG O (aH O O O O (fJ ag))<|vV O (bg O O O)<|vE hK12<|vF1 O fun a hF=>?_
     apply wp_exit
     refine hK8 _ _ ?_
     apply wp_seq_k; intro K13 hK13
     obtain ⟨htw,hdw⟩:=vZ hn hall (fun i2 hj2=>by rw [hi] at hj2; cases hj2; exact decide_eq_false hkb)
     have hln:(l.take n).length=n:=by rw [List.length_take]; omega
     have hld:(l.drop n).length=l.length-n:=List.length_drop ..
     have hLt:=Gh n hI hL
     have hLd:=Gj n c hI hn hlc hL
     have hIt:∀ i∈l.take n,i.OK:=fun i hi=>hI i (List.mem_of_mem_take hi)
     have hId:∀ i∈l.drop n,i.OK:=fun i hi=>hI i (List.mem_of_mem_drop hi)
     have hsu:dQ width (h+1) l=ik width (dQ width h (l.take n)) (dQ width h (l.drop n)):=by rw [FZ hl0,htw,hdw]
     refine ak 18 [8,16,17,18] [0,1,2,3,4,5,6,7,9,10,11,12,13,14,15,8,16,17,18] _ af af (Hq.drew hA12.q) ?_
     have hA13:=Hl.drew hA12
     refine pR hF<|pX O O<|pX O O<|pX O O<|pX O O<|pW O O (fun _=>ed (v:= .slice A (l.take n).length c) rfl TT kU O (.none 0) (.some rfl rfl) (Tv _) ag (by rw [hln]; exact dU)) fun a hF=>?_
     refine pR hF<|pX O O<|pW O O (fun _=>bH O O O (show IntKind.i64.wrap (((255-h:Nat):Int)+1)=((256-h:Nat):Int) by rw [TB _ ag]; omega)) fun a hF=>?_
     refine pR hF<|pX O O<|pX O O<|pX O O<|pX O O<|pW O O (fun _=>ed (v:= .slice (sub A n c 65) (l.drop n).length (c-n)) O TT kU O (.some rfl rfl) (.none _) hn hlc (by rw [hld])) fun a hF=>?_
     refine pR hF<|pX O O<|pW O O (fun _=>bH O O O (show IntKind.i64.wrap (((255-h:Nat):Int)+1)=((256-h:Nat):Int) by rw [TB _ ag]; omega)) fun a hF=>?_
     refine pR hF<|pX O O fun a hF=>?_
     refine bM O O O (fun K hK=>ax hF O ae o9 rfl rfl ?_)
     with_reducible refine (ih ag _ ([row b1 25 (dc (List.replicate 32 0))]::R) (List.Subset.trans hG (aA (bu))) A (l.take n) c (by rw [hln]; omega) (by rw [hln]; omega) hIt hLt hA13).mono ?_
     rintro e' w14 ⟨rfl,hA15⟩
     refine ⟨_,rfl,fun a hF=>hK _ _ (fun _=>?_) ?_⟩
     ·exact hA15.q
     replace hA15:Hp w0 ([row b1 25 (dc (List.replicate 32 0))]::R) w14:=hA15
     refine bM O O O (fun K hK=>ax hF O ae o9 rfl rfl ?_)
     with_reducible refine (ih ag _ ([row b1 25 (dc (List.replicate 32 0))]::R) (List.Subset.trans hG (aA (bu))) (sub A n c 65) (l.drop n) (c-n) (by rw [hld]; omega) (by rw [hld]; omega) hId hLd hA15).mono ?_
     rintro e' w16 ⟨rfl,hA17⟩
     refine ⟨_,rfl,fun a hF=>hK _ _ (fun _=>?_) ?_⟩
     ·exact hA17.q
     replace hA17:Hp w0 ([row b1 25 (dc (List.replicate 32 0))]::R) w16:=hA17
     refine bM O O O (fun K hK=>ax hF O ae P8 rfl rfl ?_)
     with_reducible refine (wu w0 _ ([row b1 25 (dc (List.replicate 32 0))]::R) width (dQ width h (l.take n)) (dQ width h (l.drop n)) (iD _ _ _) (iD _ _ _) hA17).mono ?_
     rintro e' w18 ⟨rfl,hA19⟩
     refine ⟨_,rfl,fun a hF=>hK _ _ (fun _=>?_) ?_⟩
     ·exact hA19.q
     replace hA19:Hp w0 ([row b1 25 (dc (List.replicate 32 0))]::R) w18:=hA19
     rw [show ofL width 4 (dQ width h (l.take n)++dQ width h (l.drop n))=dQ width (h+1) l from hsu.symm] at hF
     refine bM O O O (fun K hK=>aI (new:=dc (dQ width (h+1) l)) hF O O hA19 O O 0 O (by rw [hds]; rfl) (bz _) (by exact uX) (fun w20 hA21=>hK _ _ (fun h=>absurd h ae) ?_))
     replace hA21:Hp w0 ([row b1 25 (dc (dQ width (h+1) l))]::R) w20:=hA21
     refine aB ?_
     refine hK13 _ _ ?_
     apply wp_ret
     refine fD hF Tryz.results42 hA21.q O 0 O (by rw [hds]; exact vw) ?_
     have hA22:Hp w0 (R) w20:=hpS 1 [] [0] hA21 rfl
     exact ⟨rfl,hA22⟩
   ·apply wp_seq_k; intro K14 hK14
    refine wS hF fun K15 hK15=>vX O<|vX O<|vV O (aY O TT O O)<|vV O (aH O O O O (dD ag))<|vX O<|vS O<|vS O<|vS O<|vS O<|vS O<|vS O<|vS O<|vS O<|vV O (bg O O O)<|vE hK15<|vF1 O fun a hF=>?_
    apply wp_exit
    refine hK8 _ _ ?_
    apply wp_seq_k; intro K16 hK16
    obtain ⟨htw,hdw⟩:=vZ hn hall (fun i2 hj2=>by rw [List.getElem?_eq_none ag] at hj2; cases hj2)
    have hln:(l.take n).length=n:=by rw [List.length_take]; omega
    have hld:(l.drop n).length=l.length-n:=List.length_drop ..
    have hLt:=Gh n hI hL
    have hLd:=Gj n c hI hn hlc hL
    have hIt:∀ i∈l.take n,i.OK:=fun i hi=>hI i (List.mem_of_mem_take hi)
    have hId:∀ i∈l.drop n,i.OK:=fun i hi=>hI i (List.mem_of_mem_drop hi)
    have hsu:dQ width (h+1) l=ik width (dQ width h (l.take n)) (dQ width h (l.drop n)):=by rw [FZ hl0,htw,hdw]
    refine ak 18 [8,16,17,18] [0,1,2,3,4,5,6,7,9,10,11,12,13,14,15,8,16,17,18] _ af af (Hq.drew hA7.q) ?_
    have hA23:=Hl.drew hA7
    refine pR hF<|pX O O<|pX O O<|pX O O<|pX O O<|pW O O (fun _=>ed (v:= .slice A (l.take n).length c) rfl TT kU O (.none 0) (.some rfl rfl) (Tv _) ag (by rw [hln]; exact dU)) fun a hF=>?_
    refine pR hF<|pX O O<|pW O O (fun _=>bH O O O (show IntKind.i64.wrap (((255-h:Nat):Int)+1)=((256-h:Nat):Int) by rw [TB _ ag]; omega)) fun a hF=>?_
    refine pR hF<|pX O O<|pX O O<|pX O O<|pX O O<|pW O O (fun _=>ed (v:= .slice (sub A n c 65) (l.drop n).length (c-n)) O TT kU O (.some rfl rfl) (.none _) hn hlc (by rw [hld])) fun a hF=>?_
    refine pR hF<|pX O O<|pW O O (fun _=>bH O O O (show IntKind.i64.wrap (((255-h:Nat):Int)+1)=((256-h:Nat):Int) by rw [TB _ ag]; omega)) fun a hF=>?_
    refine pR hF<|pX O O fun a hF=>?_
    refine bM O O O (fun K hK=>ax hF O ae o9 rfl rfl ?_)
    with_reducible refine (ih ag _ ([row b1 25 (dc (List.replicate 32 0))]::R) (List.Subset.trans hG (aA (bu))) A (l.take n) c (by rw [hln]; omega) (by rw [hln]; omega) hIt hLt hA23).mono ?_
    rintro e' w24 ⟨rfl,hA25⟩
    refine ⟨_,rfl,fun a hF=>hK _ _ (fun _=>?_) ?_⟩
    ·exact hA25.q
    replace hA25:Hp w0 ([row b1 25 (dc (List.replicate 32 0))]::R) w24:=hA25
    refine bM O O O (fun K hK=>ax hF O ae o9 rfl rfl ?_)
    with_reducible refine (ih ag _ ([row b1 25 (dc (List.replicate 32 0))]::R) (List.Subset.trans hG (aA (bu))) (sub A n c 65) (l.drop n) (c-n) (by rw [hld]; omega) (by rw [hld]; omega) hId hLd hA25).mono ?_
    rintro e' w26 ⟨rfl,hA27⟩
    refine ⟨_,rfl,fun a hF=>hK _ _ (fun _=>?_) ?_⟩
    ·exact hA27.q
    replace hA27:Hp w0 ([row b1 25 (dc (List.replicate 32 0))]::R) w26:=hA27
    refine bM O O O (fun K hK=>ax hF O ae P8 rfl rfl ?_)
    with_reducible refine (wu w0 _ ([row b1 25 (dc (List.replicate 32 0))]::R) width (dQ width h (l.take n)) (dQ width h (l.drop n)) (iD _ _ _) (iD _ _ _) hA27).mono ?_
    rintro e' w28 ⟨rfl,hA29⟩
    refine ⟨_,rfl,fun a hF=>hK _ _ (fun _=>?_) ?_⟩
    ·exact hA29.q
    replace hA29:Hp w0 ([row b1 25 (dc (List.replicate 32 0))]::R) w28:=hA29
    rw [show ofL width 4 (dQ width h (l.take n)++dQ width h (l.drop n))=dQ width (h+1) l from hsu.symm] at hF
    refine bM O O O (fun K hK=>aI (new:=dc (dQ width (h+1) l)) hF O O hA29 O O 0 O (by rw [hds]; rfl) (bz _) (by exact uX) (fun w30 hA31=>hK _ _ (fun h=>absurd h ae) ?_))
    replace hA31:Hp w0 ([row b1 25 (dc (dQ width (h+1) l))]::R) w30:=hA31
    refine aB ?_
    refine hK16 _ _ ?_
    apply wp_ret
    refine fD hF Tryz.results42 hA31.q O 0 O (by rw [hds]; exact vw) ?_
    have hA32:Hp w0 (R) w30:=hpS 1 [] [0] hA31 rfl
    exact ⟨rfl,hA32⟩
theorem Ii (w0:World) (G:List Seg) (width:Int) (AE:Option Addr) (cE:Nat) (hE:Rc w0 G AE (dM (aK width) 257)) (w:World) (R:List Seg) (hG:G⊆R) (A:Option Addr) (l:List Itm) (c:Nat) (hlc:l.length≤c) (hcm:l.length≤9223372036854775807) (hI:∀ i∈l,i.OK) (hL:Rc w0 G A (cel Itm.cells l)) (hA:Hp w0 R w):Calls Tryz.prog 42 #[.int .i64 width,.slice A l.length c,.int .i64 0,.slice AE 257 cE] w fun e w'=>e= .returned (.agg (dc (dQ width 256 l)).toArray)∧Hp w0 R w' :=
 Ld w0 G width AE cE hE 256 (TG _) w R hG A l c hlc hcm hI hL hA
theorem JW {E:Seg} {G R:List Seg} (h:E∈R) (hG:G⊆R):E::G⊆R:=fun x hx=>by
 rcases List.mem_cons.1 hx with rfl | hx
 ·exact h
 ·exact hG hx
theorem OX (w0 w:World) (R G:List Seg) (hG:G⊆R) (width:Int) (A:Option Addr) (l:List Itm) (c:Nat) (hlc:l.length≤c) (hcm:l.length≤9223372036854775807) (hI:∀ i∈l,i.OK) (hL:Rc w0 G A (cel Itm.cells l)) (hA:Hp w0 R w):Calls Tryz.prog 33 #[.int .i64 width,.slice A l.length c] w fun e w'=>e= .returned (.agg (dc (dQ width 256 l)).toArray)∧Hp w0 R w':=by
 have hds:(dc (dQ width 256 l)).length=32:=by rw [aj,iD]
 refine aJ Tryz.func33 O Tryz.ntmps33 ai (fun a hF=>?_)
 refine wp_seq_k fun K1 hK1=>wp_region_lit ?_
 refine au O (fun K hK=>bG hF O ae rfl hA (jE) (fun b1 w2 a hb1 hF hA3=>hK _ _ ?_))
 refine az<|hK1 _ _ ?_
 refine wS hF fun K2 hK2=>vX O<|vX O<|vX O fun a hF=>?_
 refine au O (fun K hK=>ax hF O ae Nk rfl rfl ?_)
 with_reducible refine (uB w0 _ ([row b1 25 (dc (List.replicate 32 0))]::R) width hA3).mono ?_
 rintro e' w4 ⟨AE,cE,ZE,rfl,hRE,hA5⟩
 refine ⟨_,rfl,fun a hF=>hK _ _ ?_⟩
 replace hA5:Hp w0 (ZE::[row b1 25 (dc (List.replicate 32 0))]::R) w4:=hA5
 refine au O (fun K hK=>ax hF O ae o9 rfl rfl ?_)
 with_reducible refine (Ii w0 (ZE::G) width AE cE (hRE.mono (dZ (TF ..))) _ (ZE::[row b1 25 (dc (List.replicate 32 0))]::R) (JW ((TF ..)) (List.Subset.trans hG (aA (aA (bu))))) A l c hlc hcm hI (hL.mono (aA bu)) hA5).mono ?_
 rintro e' w6 ⟨rfl,hA7⟩
 refine ⟨_,rfl,fun a hF=>hK _ _ ?_⟩
 refine au O (fun K hK=>aI (new:=dc (dQ width 256 l)) hF O O hA7 O O 1 O (by rw [hds]; rfl) (bz _) uX (fun w8 hA9=>hK _ _ ?_))
 replace hA9:Hp w0 (ZE::[row b1 25 (dc (dQ width 256 l))]::R) w8:=hA9
 refine az<|hK2 _ _ ?_
 apply wp_ret
 refine fD hF Tryz.results33 hA9.q O 1 O (by rw [hds]; exact vw) ?_
 have hA10:Hp w0 (R) w8:=hpS 2 [] [0,1] hA9 rfl
 exact ⟨rfl,hA10⟩
end Go.Proofs.YtpomngkcfbnjoaaGreatDoor
