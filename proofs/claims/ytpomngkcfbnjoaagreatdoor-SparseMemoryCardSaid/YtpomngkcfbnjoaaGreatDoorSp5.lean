/- The reference: Climb and Check. -/
import Derived.Test.YtpomngkcfbnjoaaGreatDoorLawTwice
/- The reference: Climb and Check. -/
set_option maxRecDepth 100000
set_option maxHeartbeats 8000000
namespace Go.Proofs.YtpomngkcfbnjoaaGreatDoor
open Go.RowKit Go.Dk
def Prf.to (p:Prf) (width:Int) (k:List UInt8):List UInt8:=if p.err width=0 then p.lead width k 256 else List.replicate 32 0
theorem Prf.to_length (p:Prf) (width:Int) (k:List UInt8):(p.to width k).length=32:=by unfold Prf.to; split; exact p.lead_length ..; rfl
theorem OA (w:World):(Instr.build 25 #[]).run Tryz.prog w= .ok (.agg (dc (List.replicate 32 0)).toArray) w:=af
theorem BI (w0 w:World) (R:List Seg) (width:Int) (hA:Hp w0 R w):Calls Tryz.prog 39 #[.int .i64 width] w fun e w'=>∃ A c Z,e= .returned (.slice A 257 c)∧Rc w0 [Z] A (dM (aK width) 257)∧Hp w0 (Z::R) w':=by
 refine (uJ w width).mono ?_
 rintro e w' ⟨v,X,rfl,hO,hw⟩
 obtain ⟨g,c,Z,rfl,_,hg,rfl⟩:=Aj hO ae
 exact ⟨some ⟨g,0,none⟩,c,_,rfl,Rc.ofRow (i:=0) (off:=0) rfl (by rw [List.drop_zero]; exact List.take_left' rfl),hA.thenNew hw (xE hg)⟩
theorem J6 (w0 w:World) (R:List Seg) (n:Int) (hA:Hp w0 R w):Calls Tryz.prog 48 #[.int .i64 n] w fun e w'=>∃ g,e= .returned (.slice (some ⟨g,0,none⟩) 8 8)∧Hp w0 ([row g 5 (dc (be 8 (c64 n)))]::R) w':=by
 refine (zA w n).mono ?_
 rintro e w' ⟨g,rfl,hg,hw⟩
 exact ⟨g,rfl,hA.thenNew hw (xE hg)⟩
theorem Hz (w0 w:World) (R:List Seg) (hA:Hp w0 R w):Calls Tryz.prog 47 #[.int .i64 5,.slice none 0 0] w fun e w'=>∃ A c Z,e= .returned (.slice A ([5]:List UInt8).length c)∧Rd w0 [Z] A [5]∧Hp w0 (Z::R) w' :=
 wo w0 w R [] (List.nil_subset _) 5 5 ae none [] [] 0 0 rfl rfl (Gs w0 []) ae ae hA
theorem yS (w0 w:World) (R:List Seg) (pa A B:Option Addr) (ca cb:Nat) (l m:List UInt8) (h:PcS w0 R pa [(A,ca,l),(B,cb,m)]) (hl:l.length=32) (hm:m.length=32) (hA:Hp w0 R w):Calls Tryz.prog 47 #[.int .i64 4,.slice pa 2 2] w fun e w'=>∃ A2 c2 Z,e= .returned (.slice A2 (4::(l++m):List UInt8).length c2)∧Rd w0 [Z] A2 (4::(l++m))∧Hp w0 (Z::R) w':=by
 have h1:=wo w0 w R R bu 4 4 ae pa [(A,ca,l),(B,cb,m)] [l,m] 2 2 rfl rfl h (by rw [GK,List.length_append]; omega) ae hA
 rw [GK] at h1
 exact h1
theorem Hy (w0 w:World) (R:List Seg) (pa A B C:Option Addr) (ca cb cc:Nat) (l m k:List UInt8) (h:PcS w0 R pa [(A,ca,l),(B,cb,m),(C,cc,k)]) (hl:l.length=32) (hm:m.length=8) (hk:k.length=32) (hA:Hp w0 R w):Calls Tryz.prog 47 #[.int .i64 3,.slice pa 3 3] w fun e w'=>∃ A2 c2 Z,e= .returned (.slice A2 (3::(l++m++k):List UInt8).length c2)∧Rd w0 [Z] A2 (3::(l++m++k))∧Hp w0 (Z::R) w':=by
 have h1:=wo w0 w R R bu 3 3 ae pa [(A,ca,l),(B,cb,m),(C,cc,k)] [l,m,k] 3 3 rfl rfl h (by rw [flat3,List.length_append,List.length_append]; omega) ae hA
 rw [flat3] at h1
 exact h1
structure RTxsS (w0:World) (ts:List TxX) (L:List (List UInt8)) (tv:Value) (XL:Seg):Prop where
 oks:∀ t∈ts,t.Ok w0
 txt:ts.map (·.l)=L
 lst:Buf 70 1 XL tv ts.length (ts.map (·.v))
theorem RTxsS.snoc {w0:World} {ts:List TxX} {L:List (List UInt8)} {tv v2:Value} {XL X2 Z:Seg} {l:List UInt8} {A:Option Addr} {c:Nat} (h:RTxsS w0 ts L tv XL) (hZ:Rd w0 [Z] A l) (h2:Buf 70 1 X2 v2 (ts.length+1) (ts.map (·.v)++[.slice A l.length c])):RTxsS w0 (ts++[⟨.slice A l.length c,l,Z⟩]) (L++[l]) v2 X2:=by
 refine ⟨fun t ht=>?_,by rw [List.map_append,h.txt]; rfl,by rw [List.length_append,List.map_append]; exact h2⟩
 rcases List.mem_append.1 ht with ht | ht
 ·exact h.oks t ht
 ·rw [List.mem_singleton.1 ht]; exact ⟨A,c,rfl,hZ⟩
theorem RTxsS.len {w0:World} {ts:List TxX} {L:List (List UInt8)} {tv:Value} {XL:Seg} (h:RTxsS w0 ts L tv XL):ts.length=L.length:=by rw [← h.txt,List.length_map]
theorem RTxsS.none (w0:World):RTxsS w0 [] [] (.slice Option.none 0 0) []:=⟨(fun _ h=>by cases h),rfl,Buf.nil _ _⟩
theorem NP {D:List UInt8} {b:Nat} (h:jU .neq ((bAt D b).toNat:Int) 0=false):bAt D b=0:=by
 apply UInt8.toNat_inj.1
 have h1:((bAt D b).toNat:Int)=0:=by simpa [jU] using h
 show (bAt D b).toNat=0
 omega
theorem Df (width:Int):((kept width:Nat):Int)=min (max width 1) 32:=by unfold kept; omega
theorem Prf.side_of {p:Prf} {width:Int} {h:Nat} (b:iF p.bs h=true):p.dig h=p.side width h:=by unfold Prf.side; rw [if_pos b]
theorem Prf.side_no {p:Prf} {width:Int} {h:Nat} (b:iF p.bs h=false):aK width h=p.side width h:=by unfold Prf.side; rw [b]; rfl
theorem Qe:aG Tryz.prog 22:=⟨_,Tryz.func22,af,af⟩
theorem AV:aG Tryz.prog 45:=⟨_,Tryz.func45,af,af⟩
theorem G5:aG Tryz.prog 46:=⟨_,Tryz.func46,af,af⟩
theorem P7:aG Tryz.prog 39:=⟨_,Tryz.func39,af,af⟩
theorem GZ:aG Tryz.prog 51:=⟨_,Tryz.func51,af,af⟩
theorem yT (w0 w:World) (R G:List Seg) (hG:G⊆R) (p:Prf) (sA:Option Addr) (sC:Nat) (width:Int) (k:List UInt8) (hp:p.OK) (hk:k.length=32) (hS:Rc w0 G sA (fF p.ss)) (hA:Hp w0 R w):Calls Tryz.prog 22 #[.int .i64 width,.agg (dc k).toArray,.agg (p.cells (.slice sA p.ss.length sC)).toArray] w fun e w'=>∃ ts tv XL,e= .returned (.tuple #[tv,.agg (dc (p.to width k)).toArray,.int .i64 ((p.err width:Nat):Int)])∧RTxsS w0 ts (if p.err width=0 then p.texts width k 257 else []) tv XL∧Hp w0 (XL::txS ts::R) w':=by
 have hdk:(dc k).length=32:=by rw [aj,hk]
 refine aJ Tryz.func22 O Tryz.ntmps22 ai (fun a hF=>?_)
 refine wp_seq_k fun K1 hK1=>wp_region_lit ?_
 refine au O (fun K hK=>bC (cs:=dc k) hF O ae rfl hA O (fun b1 w2 a hb1 hF hA3=>hK _ _ ?_))
 refine au O (fun K hK=>bC (cs:=p.cells (.slice sA p.ss.length sC)) hF O ae rfl hA3 O (fun b4 w5 a hb4 hF hA6=>hK _ _ ?_))
 refine vR hF<|vX O fun a hF=>?_
 refine au O (fun K hK=>bG hF O ae rfl hA6 (jE) (fun b7 w8 a hb7 hF hA9=>hK _ _ ?_))
 refine vR hF<|vX O<|vE hK1<|wT fun K2 hK2=>vV O (nM O OA) fun a hF=>?_
 refine au O (fun K hK=>bG hF O ae rfl hA9 (jE) (fun b10 w11 a hb10 hF hA12=>hK _ _ ?_))
 refine au O (fun K hK=>aI (new:=dc (List.replicate 32 0)) hF O O hA12 O O 0 O O (bz _) uX (fun w13 hA14=>hK _ _ ?_))
 replace hA14:Hp w0 ([row b10 25 (dc (List.replicate 32 0))]::[row b7 25 (dc (List.replicate 32 0))]::[row b4 30 (p.cells (.slice sA p.ss.length sC))]::[row b1 25 (dc k)]::R) w13:=hA14
 refine az<|hK2 _ _ ?_
 refine wS hF fun K3 hK3=>vX O<|vE hK3<|wQ fun K4 hK4=>wT fun K5 hK5=>vX O<|vE hK5<|wBk fun a hF=>?_
 have hz32:(dc (List.replicate 32 0)).length=32:=rfl
 have hA15:Hp w0 ([row b1 25 (dc k)]::[row b4 30 (p.cells (.slice sA p.ss.length sC))]::[row b7 25 (dc (List.replicate 32 0))]::[row b10 25 (dc (List.replicate 32 0))]::R) w13:=hpO 4 [3,2,1,0] hA14 rfl
 refine bQ (G:=Nat) (fun h a x=>h≤256∧Fr 159 [(11,.int .i64 (h:Int)),(10,.int .i64 ((dh p.bs h:Nat):Int)),(0,.int .i64 width),(4,.pointer (some ⟨b1,0,none⟩)),(5,.pointer (some ⟨b4,0,none⟩)),(7,.pointer (some ⟨b7,0,none⟩)),(9,.pointer (some ⟨b10,0,none⟩))] a∧Hp w0 ([row b1 25 (dc k)]::[row b4 30 (p.cells (.slice sA p.ss.length sC))]::[row b7 25 (dc (List.replicate 32 0))]::[row b10 25 (dc (List.replicate 32 0))]::R) x) (fun h=>256-h) 0 (⟨Tv _,hF.keep [11,10,0,4,5,7,9] rfl,hA15⟩) ?_
 clear hF
 rintro h a w17 ⟨hh,hF,hA16⟩
 apply wp_seq_k; intro K6 hK6
 refine wS hF fun K7 hK7=>vX O<|vV O (aH O O O O O)<|vE hK7 fun a hF=>?_
 by_cases hlt:h<256
 ·refine aZ hF O (dB ag) ?_
  have hol:=mG p.bs h
  apply wp_skip
  refine hK6 _ _ ?_
  apply wp_seq_k; intro K8 hK8
  apply wp_block
  refine wS hF fun K9 hK9=>vV O (aT O hA16.q O 1 O OL (by rw [Prf.c_len hp]; decide) (Prf.c_all hp)) fun a hF=>?_
  refine vR hF<|vX O fun a hF=>?_
  refine au O (fun K hK=>ax hF O ae AV rfl rfl ?_)
  with_reducible refine (Ep w0 _ ([row b1 25 (dc k)]::[row b4 30 (p.cells (.slice sA p.ss.length sC))]::[row b7 25 (dc (List.replicate 32 0))]::[row b10 25 (dc (List.replicate 32 0))]::R) p (.slice sA p.ss.length sC) hp h hlt hA16).mono ?_
  rintro e' w18 ⟨rfl,hA19⟩
  refine ⟨_,rfl,fun a hF=>hK _ _ ?_⟩
  replace hA19:Hp w0 ([row b1 25 (dc k)]::[row b4 30 (p.cells (.slice sA p.ss.length sC))]::[row b7 25 (dc (List.replicate 32 0))]::[row b10 25 (dc (List.replicate 32 0))]::R) w18:=hA19
  refine az<|hK9 _ _ ?_
  by_cases hb:iF p.bs h=true
  ·have ho:dh p.bs (h+1)=dh p.bs h+1:=by show dh p.bs h+jo p.bs h=_; rw [sZ hb]
   refine aZ hF O hb ?_
   refine wp_region_lit ?_
   refine vR hF<|vX O<|vV O (bH O O O (show IntKind.i64.wrap (((dh p.bs h:Nat):Int)+1)=((dh p.bs (h+1):Nat):Int) by rw [TB _ ag,ho]; omega)) fun a hF=>?_
   refine vR hF<|vX O fun a hF=>az<|hK8 _ _ ?_
   refine wp_region_lit ?_
   refine vR hF<|vX O<|vV O (bH O O O (TB _ ag))<|vX O fun a hF=>?_
   refine az ?_
   exact ⟨h+1,ag,ag,hF.keep [11,10,0,4,5,7,9] rfl,hA19⟩
  ·have hb0:iF p.bs h=false:=by simpa using hb
   have ho:dh p.bs (h+1)=dh p.bs h:=by show dh p.bs h+jo p.bs h=_; rw [vN hb0]; rfl
   refine aS hF O hb0 ?_
   apply wp_skip
   refine hK8 _ _ ?_
   refine wp_region_lit ?_
   refine vR hF<|vX O<|vV O (bH O O O (TB _ ag))<|vX O fun a hF=>?_
   refine az ?_
   rw [← ho] at hF
   exact ⟨h+1,ag,ag,hF.keep [11,10,0,4,5,7,9] rfl,hA19⟩
 ·refine aS hF O (dD ag) ?_
  obtain rfl:h=256:=by omega
  have hol:=mG p.bs 256
  apply wp_exit
  refine hK4 _ _ ?_
  apply wp_seq_k; intro K10 hK10
  apply wp_seq_k; intro K11 hK11
  have hGood:∀ (a:Act) (x:World),p.formed=true→Fr 159 [(58,.bool false),(0,.int .i64 width),(4,.pointer (some ⟨b1,0,none⟩)),(5,.pointer (some ⟨b4,0,none⟩)),(7,.pointer (some ⟨b7,0,none⟩)),(9,.pointer (some ⟨b10,0,none⟩))] a→Hp w0 ([row b1 25 (dc k)]::[row b4 30 (p.cells (.slice sA p.ss.length sC))]::[row b7 25 (dc (List.replicate 32 0))]::[row b10 25 (dc (List.replicate 32 0))]::R) x→K11 a x:=by
   clear hF
   intro a x hf hF hAj
   refine hK11 _ _ ?_
   refine dL hF O ?_
   apply wp_skip
   refine hK10 _ _ ?_
   refine wS hF fun K12 hK12=>vX O fun a hF=>?_
   refine au O (fun K hK=>ax hF O ae P7 rfl rfl ?_)
   with_reducible refine (BI w0 _ ([row b1 25 (dc k)]::[row b4 30 (p.cells (.slice sA p.ss.length sC))]::[row b7 25 (dc (List.replicate 32 0))]::[row b10 25 (dc (List.replicate 32 0))]::R) width hAj).mono ?_
   rintro e' w20 ⟨AE,cE,ZE,rfl,hRE,hA21⟩
   refine ⟨_,rfl,fun a hF=>hK _ _ ?_⟩
   replace hA21:Hp w0 (ZE::[row b1 25 (dc k)]::[row b4 30 (p.cells (.slice sA p.ss.length sC))]::[row b7 25 (dc (List.replicate 32 0))]::[row b10 25 (dc (List.replicate 32 0))]::R) w20:=hA21
   refine vR hF<|vX O<|vE hK12<|wT fun K13 hK13=>vX O<|vX O<|vE hK13<|wQ fun K14 hK14=>wT fun K15 hK15=>vX O<|vV O (aH O O O O O)<|vE hK15 fun a hF=>?_
   have hJ1:∀ (a:Act) (x:World) (z:Int),z=max width 1→Fr 159 [(13,.int .i64 z),(0,.int .i64 width),(4,.pointer (some ⟨b1,0,none⟩)),(5,.pointer (some ⟨b4,0,none⟩)),(7,.pointer (some ⟨b7,0,none⟩)),(9,.pointer (some ⟨b10,0,none⟩)),(12,.slice AE 257 cE)] a→Hp w0 (ZE::[row b1 25 (dc k)]::[row b4 30 (p.cells (.slice sA p.ss.length sC))]::[row b7 25 (dc (List.replicate 32 0))]::[row b10 25 (dc (List.replicate 32 0))]::R) x→K14 a x:=by
    clear hF
    intro a x z hz hF hAj
    refine hK14 _ _ ?_
    apply wp_seq_k; intro K16 hK16
    refine wS hF fun K17 hK17=>vX O<|vV O (aH O O O O O)<|vE hK17 fun a hF=>?_
    have hJ2:∀ (a:Act) (x:World) (z:Int),z=((kept width:Nat):Int)→Fr 159 [(13,.int .i64 z),(0,.int .i64 width),(4,.pointer (some ⟨b1,0,none⟩)),(5,.pointer (some ⟨b4,0,none⟩)),(7,.pointer (some ⟨b7,0,none⟩)),(9,.pointer (some ⟨b10,0,none⟩)),(12,.slice AE 257 cE)] a→Hp w0 (ZE::[row b1 25 (dc k)]::[row b4 30 (p.cells (.slice sA p.ss.length sC))]::[row b7 25 (dc (List.replicate 32 0))]::[row b10 25 (dc (List.replicate 32 0))]::R) x→K16 a x:=by
     clear hF
     intro a x z hz2 hF hAj
     subst hz2
     refine hK16 _ _ ?_
     refine wS hF fun K18 hK18=>vX O<|vE hK18<|wQ fun K19 hK19=>wT fun K20 hK20=>vX O<|vE hK20<|wBk fun a hF=>?_
     refine bQ (G:=Nat) (fun h a x=>h≤256∧p.bad width h=false∧Fr 159 [(15,.int .i64 (h:Int)),(14,.int .i64 ((dh p.bs h:Nat):Int)),(0,.int .i64 width),(4,.pointer (some ⟨b1,0,none⟩)),(5,.pointer (some ⟨b4,0,none⟩)),(7,.pointer (some ⟨b7,0,none⟩)),(9,.pointer (some ⟨b10,0,none⟩)),(12,.slice AE 257 cE),(13,.int .i64 ((kept width:Nat):Int))] a∧Hp w0 (ZE::[row b1 25 (dc k)]::[row b4 30 (p.cells (.slice sA p.ss.length sC))]::[row b7 25 (dc (List.replicate 32 0))]::[row b10 25 (dc (List.replicate 32 0))]::R) x) (fun h=>256-h) 0 (⟨Tv _,rfl,hF.keep [15,14,0,4,5,7,9,12,13] rfl,hAj⟩) ?_
     clear hF
     rintro h a w23 ⟨hh,hbad,hF,hA22⟩
     apply wp_seq_k; intro K21 hK21
     refine wS hF fun K22 hK22=>vX O<|vV O (aH O O O O O)<|vE hK22 fun a hF=>?_
     by_cases hlt:h<256
     ·refine aZ hF O (dB ag) ?_
      apply wp_skip
      refine hK21 _ _ ?_
      apply wp_seq_k; intro K23 hK23
      apply wp_block
      apply wp_seq_k; intro K24 hK24
      refine wS hF fun K25 hK25=>vV O (aT O hA22.q O 2 O OL (by rw [Prf.c_len hp]; decide) (Prf.c_all hp)) fun a hF=>?_
      refine vR hF<|vX O fun a hF=>?_
      refine au O (fun K hK=>ax hF O ae AV rfl rfl ?_)
      with_reducible refine (Ep w0 _ (ZE::[row b1 25 (dc k)]::[row b4 30 (p.cells (.slice sA p.ss.length sC))]::[row b7 25 (dc (List.replicate 32 0))]::[row b10 25 (dc (List.replicate 32 0))]::R) p (.slice sA p.ss.length sC) hp h hlt hA22).mono ?_
      rintro e' w24 ⟨rfl,hA25⟩
      refine ⟨_,rfl,fun a hF=>hK _ _ ?_⟩
      replace hA25:Hp w0 (ZE::[row b1 25 (dc k)]::[row b4 30 (p.cells (.slice sA p.ss.length sC))]::[row b7 25 (dc (List.replicate 32 0))]::[row b10 25 (dc (List.replicate 32 0))]::R) w24:=hA25
      refine vR hF<|vV O (eU O O O)<|vE hK25 fun a hF=>?_
      by_cases hb:iF p.bs h=true
      ·refine aS hF O (by rw [hb]; rfl) ?_
       obtain ⟨hsl,hsat⟩:=Prf.dig_at hf hb hlt
       have hdl:(p.dig h).length=32:=Prf.dig_length hp hf hb hlt
       have hddl:(dc (p.dig h)).length=32:=by rw [aj,hdl]
       obtain ⟨hsr,hsr2⟩:=JY hp hsat
       obtain ⟨b,q,hsA,hc⟩:=hS.ne (i:=dh p.bs h*32) ag
       have ho:dh p.bs (h+1)=dh p.bs h+1:=by show dh p.bs h+jo p.bs h=_; rw [sZ hb]
       have hol:=mG p.bs h
       have hdle:=bZ width
       obtain ⟨herd,hele⟩:=iY (aK width) 257 h (fun i _=>hdle i) ag
       obtain ⟨be_,qe,hAE,hce⟩:=hRE.ne (i:=h*32) ag
       apply wp_skip
       refine hK24 _ _ ?_
       refine wS hF fun K26 hK26=>vV O (yf 66 rfl TW O rC O)<|vV O (aX O hA25.q O 2 O (Prf.c_sums hp) rQ)<|vX O<|vV O (bi O Tu uX (by exact congrArg (fun A=>some (Value.slice A p.ss.length sC)) hsA) rfl (dh p.bs h) rfl hsl rfl) fun a hF=>?_
       refine vR hF<|vV O (aQ O (Hq.sub hA25.q (List.Subset.trans hG (aA (aA (aA (aA (aA (bu)))))))) O hc (dh p.bs h*32) hsr2 rfl hsr vw) fun a hF=>?_
       refine au O (fun K hK=>bG hF O ae rfl hA25 (jE) (fun b26 w27 a hb26 hF hA28=>hK _ _ ?_))
       refine au O (fun K hK=>aI (new:=dc (p.dig h)) hF O O hA28 O O 0 O (by rw [hddl]; rfl) (bz _) uX (fun w29 hA30=>hK _ _ ?_))
       replace hA30:Hp w0 ([row b26 25 (dc (p.dig h))]::ZE::[row b1 25 (dc k)]::[row b4 30 (p.cells (.slice sA p.ss.length sC))]::[row b7 25 (dc (List.replicate 32 0))]::[row b10 25 (dc (List.replicate 32 0))]::R) w29:=hA30
       refine az<|hK26 _ _ ?_
       refine wS hF fun K27 hK27=>vX O<|vV O (bH O O O (show IntKind.i64.wrap (((dh p.bs h:Nat):Int)+1)=((dh p.bs (h+1):Nat):Int) by rw [TB _ ag,ho]; omega)) fun a hF=>?_
       refine vR hF<|vX O<|vE hK27<|wQ fun K28 hK28=>wQ fun K29 hK29 a hF=>?_
       by_cases heq:p.dig h=aK width h
       ·refine ak 5 [5] [0,1,2,3,4,5] _ af af (Hq.drew hA30.q) ?_
        have hA31:=Hl.drew hA30
        refine pR hF<|pV O O (fun x hx=>yZ (new:=dc (p.dig h)) O hx O 0 O vw hddl)<|pX O O<|pX O O<|pW O O (fun _=>bi O Tu uX (by exact congrArg (fun A=>some (Value.slice A 257 cE)) hAE) rfl h rfl ag rfl) fun a hF=>?_
        refine pR hF<|pV O O (fun x hx=>aQ O (Hq.sub hx (dZ (TI _ ((TF ..))))) O hce (h*32) hele rfl herd vw) fun a hF=>?_
        refine bY hF O O O O ae _ (oM O Tz TA D5 af rfl rfl hdl (hdle h) (decide_eq_true heq)) (fun h=>absurd h ae) (fun a hF=>?_)
        refine aB ?_
        refine hK29 _ _ ?_
        refine eP hF O ?_
        have hbt:p.badAt width h=true:=by unfold Prf.badAt; rw [hb]; simp [heq]
        apply wp_seq_k; intro K30 hK30
        refine ak 2 [2,3] [0,1,2,3] _ af af (Hq.drew hA31.q) ?_
        have hA32:=Hl.drew hA31
        refine pR hF<|pV O O (fun x hx=>yZ (new:=dc (List.replicate 32 0)) O hx O 5 O vw hz32)<|pX O O fun a hF=>?_
        refine bM O O O (fun K hK=>aI (new:=dc (List.replicate 32 0)) hF O O hA32 O O 4 O O (bz _) uX (fun w33 hA34=>hK _ _ (fun h=>absurd h ae) ?_))
        replace hA34:Hp w0 ([row b26 25 (dc (p.dig h))]::ZE::[row b1 25 (dc k)]::[row b4 30 (p.cells (.slice sA p.ss.length sC))]::[row b7 25 (dc (List.replicate 32 0))]::[row b10 25 (dc (List.replicate 32 0))]::R) w33:=hA34
        refine bY hF O O O O ae _ (bJ O O) (fun h=>absurd h ae) (fun a hF=>?_)
        refine aB ?_
        refine hK30 _ _ ?_
        apply wp_ret
        simp only [Exit.then,Exit.inBlock]
        refine pq hF Tryz.results22 hA34.q O O O 4 O vw ?_
        have hA35:Hp w0 (R) w33:=hpS 6 [] [0,1,2,3,4,5] hA34 rfl
        have hee:p.err width=170:=Prf.err_bad hf hbt hlt
        exact ⟨[],_,[],by unfold Prf.to; rw [hee]; rfl,by rw [hee]; exact RTxsS.none w0,Hp.nil (Hp.nil hA35)⟩
       ·refine ak 5 [5] [0,1,2,3,4,5] _ af af (Hq.drew hA30.q) ?_
        have hA36:=Hl.drew hA30
        refine pR hF<|pV O O (fun x hx=>yZ (new:=dc (p.dig h)) O hx O 0 O vw hddl)<|pX O O<|pX O O<|pW O O (fun _=>bi O Tu uX (by exact congrArg (fun A=>some (Value.slice A 257 cE)) hAE) rfl h rfl ag rfl) fun a hF=>?_
        refine pR hF<|pV O O (fun x hx=>aQ O (Hq.sub hx (dZ (TI _ ((TF ..))))) O hce (h*32) hele rfl herd vw) fun a hF=>?_
        refine bY hF O O O O ae _ (oM O Tz TA D5 af rfl rfl hdl (hdle h) (decide_eq_false heq)) (fun h=>absurd h ae) (fun a hF=>?_)
        refine aB ?_
        refine hK29 _ _ ?_
        refine dL hF O ?_
        apply wp_skip
        refine hK28 _ _ ?_
        refine wS hF fun K31 hK31=>vX O<|vX O<|vE hK31<|wBk fun a hF=>?_
        have hkl:=rY width
        refine bQ (G:=Nat) (fun b2 a x=>kept width≤b2∧b2≤32∧(∀ j,kept width≤j→j<b2→bAt (p.dig h) j=0)∧Fr 159 [(17,.int .i64 (b2:Int)),(0,.int .i64 width),(4,.pointer (some ⟨b1,0,none⟩)),(5,.pointer (some ⟨b4,0,none⟩)),(7,.pointer (some ⟨b7,0,none⟩)),(9,.pointer (some ⟨b10,0,none⟩)),(12,.slice AE 257 cE),(13,.int .i64 ((kept width:Nat):Int)),(15,.int .i64 (h:Int)),(14,.int .i64 ((dh p.bs (h+1):Nat):Int)),(16,.pointer (some ⟨b26,0,none⟩))] a∧Hp w0 ([row b26 25 (dc (p.dig h))]::ZE::[row b1 25 (dc k)]::[row b4 30 (p.cells (.slice sA p.ss.length sC))]::[row b7 25 (dc (List.replicate 32 0))]::[row b10 25 (dc (List.replicate 32 0))]::R) x) (fun b2=>32-b2) (kept width) (⟨TG _,hkl,(fun j h1 h2=>by omega),hF.keep [17,0,4,5,7,9,12,13,15,14,16] rfl,hA36⟩) ?_
        clear hF
        rintro b2 a w38 ⟨hba,hbb,hzz,hF,hA37⟩
        apply wp_seq_k; intro K32 hK32
        refine wS hF fun K33 hK33=>vX O<|vV O (aH O O O O O)<|vE hK33 fun a hF=>?_
        by_cases hl2:b2<32
        ·refine aZ hF O (dB ag) ?_
         by_cases hnz:jU .neq ((bAt (p.dig h) b2).toNat:Int) 0=true
         ·apply wp_skip
          refine hK32 _ _ ?_
          apply wp_seq_k; intro K34 hK34
          apply wp_block
          refine wS hF fun K35 hK35=>vX O<|vV O (aP O Tz D5 rfl rfl b2 rfl hl2 (ad1 _ _) (rfl:(none:Option Nat)=none))<|vV O (aX O hA37.q O 0 O (iP (by rw [hdl]; exact hl2)) Aq) fun a hF=>?_
          refine vR hF<|vV O (aH O O O O hnz)<|vE hK35<|vT1 O fun a hF=>?_
          have hbt:p.badAt width h=true:=by
           have hcut:¬ gZ (p.dig h) width=p.dig h:=fun e=>by
            have h0:=(GN hdl width).1 e b2 hba hl2
            rw [h0] at hnz
            cases hnz
           unfold Prf.badAt; rw [hb]; simp [hcut]
          apply wp_seq_k; intro K36 hK36
          refine ak 2 [2,3] [0,1,2,3] _ af af (Hq.drew hA37.q) ?_
          have hA39:=Hl.drew hA37
          refine pR hF<|pV O O (fun x hx=>yZ (new:=dc (List.replicate 32 0)) O hx O 5 O vw hz32)<|pX O O fun a hF=>?_
          refine bM O O O (fun K hK=>aI (new:=dc (List.replicate 32 0)) hF O O hA39 O O 4 O O (bz _) uX (fun w40 hA41=>hK _ _ (fun h=>absurd h ae) ?_))
          replace hA41:Hp w0 ([row b26 25 (dc (p.dig h))]::ZE::[row b1 25 (dc k)]::[row b4 30 (p.cells (.slice sA p.ss.length sC))]::[row b7 25 (dc (List.replicate 32 0))]::[row b10 25 (dc (List.replicate 32 0))]::R) w40:=hA41
          refine bY hF O O O O ae _ (bJ O O) (fun h=>absurd h ae) (fun a hF=>?_)
          refine aB ?_
          refine hK36 _ _ ?_
          apply wp_ret
          simp only [Exit.then,Exit.inBlock]
          refine pq hF Tryz.results22 hA41.q O O O 4 O vw ?_
          have hA42:Hp w0 (R) w40:=hpS 6 [] [0,1,2,3,4,5] hA41 rfl
          have hee:p.err width=170:=Prf.err_bad hf hbt hlt
          exact ⟨[],_,[],by unfold Prf.to; rw [hee]; rfl,by rw [hee]; exact RTxsS.none w0,Hp.nil (Hp.nil hA42)⟩
         ·have hnz0:jU .neq ((bAt (p.dig h) b2).toNat:Int) 0=false:=by simpa using hnz
          have hz0:=NP hnz0
          apply wp_skip
          refine hK32 _ _ ?_
          apply wp_seq_k; intro K37 hK37
          apply wp_block
          refine wS hF fun K38 hK38=>vX O<|vV O (aP O Tz D5 rfl rfl b2 rfl hl2 (ad1 _ _) (rfl:(none:Option Nat)=none))<|vV O (aX O hA37.q O 0 O (iP (by rw [hdl]; exact hl2)) Aq) fun a hF=>?_
          refine vR hF<|vV O (aH O O O O hnz0)<|vE hK38<|vF1 O fun a hF=>?_
          apply wp_skip
          refine hK37 _ _ ?_
          refine wp_region_lit ?_
          refine vR hF<|vX O<|vV O (bH O O O (TB _ ag))<|vX O fun a hF=>?_
          refine az ?_
          exact ⟨b2+1,ag,ag,ag,(fun j h1 h2=>by rcases Nat.lt_or_ge j b2 with h3 | h3; exact hzz j h1 h3; obtain rfl:j=b2:=ag; exact hz0),hF.keep [17,0,4,5,7,9,12,13,15,14,16] rfl,hA37⟩
        ·refine aS hF O (dD ag) ?_
         obtain rfl:b2=32:=by omega
         have hcut:gZ (p.dig h) width=p.dig h:=(GN hdl width).2 hzz
         have hb1:p.bad width (h+1)=false:=by show (p.bad width h || p.badAt width h)=false; rw [hbad]; unfold Prf.badAt; rw [hb,decide_eq_false heq,decide_eq_false (fun x=>x hcut)]; rfl
         apply wp_exit
         refine hK23 _ _ ?_
         refine wp_region_lit ?_
         refine vR hF<|vX O<|vV O (bH O O O (TB _ ag))<|vX O fun a hF=>?_
         refine az ?_
         have hA43:Hp w0 (ZE::[row b1 25 (dc k)]::[row b4 30 (p.cells (.slice sA p.ss.length sC))]::[row b7 25 (dc (List.replicate 32 0))]::[row b10 25 (dc (List.replicate 32 0))]::R) w38:=hpS 6 [1,2,3,4,5] [0] hA37 rfl
         exact ⟨h+1,ag,ag,hb1,hF.keep [15,14,0,4,5,7,9,12,13] rfl,hA43⟩
      ·have hb0:iF p.bs h=false:=by simpa using hb
       have ho:dh p.bs (h+1)=dh p.bs h:=by show dh p.bs h+jo p.bs h=_; rw [vN hb0]; rfl
       have hb1:p.bad width (h+1)=false:=by show (p.bad width h || p.badAt width h)=false; rw [hbad]; unfold Prf.badAt; rw [hb0]; rfl
       refine aZ hF O (by rw [hb0]; rfl) ?_
       apply wp_exit
       refine hK23 _ _ ?_
       refine wp_region_lit ?_
       refine vR hF<|vX O<|vV O (bH O O O (TB _ ag))<|vX O fun a hF=>?_
       refine az ?_
       rw [← ho] at hF
       exact ⟨h+1,ag,ag,hb1,hF.keep [15,14,0,4,5,7,9,12,13] rfl,hA25⟩
     ·refine aS hF O (dD ag) ?_
      obtain rfl:h=256:=by omega
      have hee:p.err width=0:=Prf.err_ok hf hbad
      apply wp_exit
      refine hK19 _ _ ?_
      refine wp_seq_k fun K39 hK39=>wp_region_lit ?_
      refine au O (fun K hK=>ax hF O ae P5 rfl rfl ?_)
      with_reducible refine (Hz w0 _ (ZE::[row b1 25 (dc k)]::[row b4 30 (p.cells (.slice sA p.ss.length sC))]::[row b7 25 (dc (List.replicate 32 0))]::[row b10 25 (dc (List.replicate 32 0))]::R) hA22).mono ?_
      rintro e' w44 ⟨A0,c0,Z,rfl,hZ0,hA45⟩
      refine ⟨_,rfl,fun a hF=>hK _ _ ?_⟩
      replace hA45:Hp w0 (Z::ZE::[row b1 25 (dc k)]::[row b4 30 (p.cells (.slice sA p.ss.length sC))]::[row b7 25 (dc (List.replicate 32 0))]::[row b10 25 (dc (List.replicate 32 0))]::R) w44:=hA45
      refine vR hF<|vX O<|vE hK39<|wQ fun K40 hK40=>wT fun K41 hK41=>vV O (yf 0 O TW O Om O)<|vV O (aX O hA45.q O 3 O O Ph)<|vE hK41 fun a hF=>?_
      have hJ:∀ (a:Act) (x:World) (A0:Option Addr) (c0:Nat) (Z:Seg),Fr 159 [(18,.slice A0 ((p.text0 k).length) c0),(0,.int .i64 width),(4,.pointer (some ⟨b1,0,none⟩)),(5,.pointer (some ⟨b4,0,none⟩)),(7,.pointer (some ⟨b7,0,none⟩)),(9,.pointer (some ⟨b10,0,none⟩)),(12,.slice AE 257 cE)] a→Rd w0 [Z] A0 (p.text0 k)→Hp w0 (Z::ZE::[row b1 25 (dc k)]::[row b4 30 (p.cells (.slice sA p.ss.length sC))]::[row b7 25 (dc (List.replicate 32 0))]::[row b10 25 (dc (List.replicate 32 0))]::R) x→K40 a x:=by
       clear hF
       intro a x A0 c0 Z hF hR0 hAj
       have htl0:(p.text0 k).length≤73:=Prf.text_len hp hf width hk (h:=0) (Tv _)
       refine hK40 _ _ ?_
       refine wS hF fun K42 hK42=>vX O fun a hF=>?_
       refine au O (fun K hK=>nK (u1:= .slice A0 (p.text0 k).length c0) hF O ae rfl hAj O (tH _ _ _) (fun b46 w47 a hb46 hF hA48=>hK _ _ ?_))
       refine vR hF<|vX O<|vE hK42<|wT fun K43 hK43=>vX O fun a hF=>?_
       refine au O (fun K hK=>ax hF O ae Qc rfl rfl ?_)
       with_reducible refine (zO w0 _ ([row b46 70 [.slice A0 ((p.text0 k).length) c0]]::Z::ZE::[row b1 25 (dc k)]::[row b4 30 (p.cells (.slice sA p.ss.length sC))]::[row b7 25 (dc (List.replicate 32 0))]::[row b10 25 (dc (List.replicate 32 0))]::R) [Z] (dZ (TI _ ((TF ..)))) A0 (p.text0 k) c0 _ O hR0 ag hA48).mono ?_
       rintro e' w49 ⟨rfl,hA50⟩
       refine ⟨_,rfl,fun a hF=>hK _ _ ?_⟩
       replace hA50:Hp w0 ([row b46 70 [.slice A0 ((p.text0 k).length) c0]]::Z::ZE::[row b1 25 (dc k)]::[row b4 30 (p.cells (.slice sA p.ss.length sC))]::[row b7 25 (dc (List.replicate 32 0))]::[row b10 25 (dc (List.replicate 32 0))]::R) w49:=hA50
       refine vR hF<|vX O fun a hF=>?_
       refine au O (fun K hK=>ax hF O ae PV rfl rfl ?_)
       with_reducible refine (zQ w0 _ ([row b46 70 [.slice A0 ((p.text0 k).length) c0]]::Z::ZE::[row b1 25 (dc k)]::[row b4 30 (p.cells (.slice sA p.ss.length sC))]::[row b7 25 (dc (List.replicate 32 0))]::[row b10 25 (dc (List.replicate 32 0))]::R) (sha (p.text0 k)) width (dH _) hA50).mono ?_
       rintro e' w51 ⟨rfl,hA52⟩
       refine ⟨_,rfl,fun a hF=>hK _ _ ?_⟩
       replace hA52:Hp w0 ([row b46 70 [.slice A0 ((p.text0 k).length) c0]]::Z::ZE::[row b1 25 (dc k)]::[row b4 30 (p.cells (.slice sA p.ss.length sC))]::[row b7 25 (dc (List.replicate 32 0))]::[row b10 25 (dc (List.replicate 32 0))]::R) w51:=hA52
       rw [show gZ (sha (p.text0 k)) width=p.lead width k 0 from rfl] at hF
       refine au O (fun K hK=>bG hF O ae rfl hA52 (jE) (fun b53 w54 a hb53 hF hA55=>hK _ _ ?_))
       refine au O (fun K hK=>aI (new:=dc (p.lead width k 0)) hF O O hA55 O O 0 O (by rw [aj,p.lead_length]; rfl) (bz _) uX (fun w56 hA57=>hK _ _ ?_))
       replace hA57:Hp w0 ([row b53 25 (dc (p.lead width k 0))]::[row b46 70 [.slice A0 ((p.text0 k).length) c0]]::Z::ZE::[row b1 25 (dc k)]::[row b4 30 (p.cells (.slice sA p.ss.length sC))]::[row b7 25 (dc (List.replicate 32 0))]::[row b10 25 (dc (List.replicate 32 0))]::R) w56:=hA57
       refine az<|hK43 _ _ ?_
       refine wS hF fun K44 hK44=>vX O<|vE hK44<|wQ fun K45 hK45=>wT fun K46 hK46=>vX O<|vE hK46<|wBk fun a hF=>?_
       have hTS0:RTxsS w0 [⟨.slice A0 (p.text0 k).length c0,p.text0 k,Z⟩] (p.texts width k 1) (.slice (some ⟨b46,0,none⟩) 1 1) [row b46 70 [.slice A0 (p.text0 k).length c0]]:=⟨fun t ht=>by rw [List.mem_singleton.1 ht]; exact ⟨A0,c0,rfl,hR0⟩,rfl,Buf.full rfl ae⟩
       have hA58:Hp w0 ([row b46 70 [.slice A0 ((p.text0 k).length) c0]]::Z::[row b53 25 (dc (p.lead width k 0))]::ZE::[row b1 25 (dc k)]::[row b4 30 (p.cells (.slice sA p.ss.length sC))]::[row b7 25 (dc (List.replicate 32 0))]::[row b10 25 (dc (List.replicate 32 0))]::R) w56:=hpO 8 [1,2,0,3,4,5,6,7] hA57 rfl
       have hA59:Hp w0 ([row b46 70 [.slice A0 (p.text0 k).length c0]]::(txS [⟨.slice A0 (p.text0 k).length c0,p.text0 k,Z⟩])::[row b53 25 (dc (p.lead width k 0))]::ZE::[row b1 25 (dc k)]::[row b4 30 (p.cells (.slice sA p.ss.length sC))]::[row b7 25 (dc (List.replicate 32 0))]::[row b10 25 (dc (List.replicate 32 0))]::R) w56:=hA58.cast (by simp [txS])
       refine bQ (G:=Nat) (fun h a x=>∃ (ts:List TxX) (tv:Value) (XL:Seg),h≤256∧RTxsS w0 ts (p.texts width k (h+1)) tv XL∧Fr 159 [(21,.int .i64 (h:Int)),(14,.int .i64 ((dh p.bs h:Nat):Int)),(19,tv),(0,.int .i64 width),(4,.pointer (some ⟨b1,0,none⟩)),(5,.pointer (some ⟨b4,0,none⟩)),(7,.pointer (some ⟨b7,0,none⟩)),(9,.pointer (some ⟨b10,0,none⟩)),(12,.slice AE 257 cE),(20,.pointer (some ⟨b53,0,none⟩))] a∧Hp w0 (XL::(txS ts)::[row b53 25 (dc (p.lead width k h))]::ZE::[row b1 25 (dc k)]::[row b4 30 (p.cells (.slice sA p.ss.length sC))]::[row b7 25 (dc (List.replicate 32 0))]::[row b10 25 (dc (List.replicate 32 0))]::R) x) (fun h=>256-h) 0 (⟨_,_,_,Tv _,hTS0,hF.keep [21,14,19,0,4,5,7,9,12,20] rfl,hA59⟩) ?_
       clear hF
       rintro h a w61 ⟨ts,tv,XL,hh,hTS,hF,hA60⟩
       apply wp_seq_k; intro K47 hK47
       refine wS hF fun K48 hK48=>vX O<|vV O (aH O O O O O)<|vE hK48 fun a hF=>?_
       by_cases hlt:h<256
       ·refine aZ hF O (dB ag) ?_
        have hdle:=bZ width
        obtain ⟨herd,hele⟩:=iY (aK width) 257 h (fun i _=>hdle i) ag
        obtain ⟨be_,qe,hAE,hce⟩:=hRE.ne (i:=h*32) ag
        have hll:(p.lead width k h).length=32:=p.lead_length ..
        have hdll:(dc (p.lead width k h)).length=32:=by rw [aj,hll]
        have hnl:(p.side width h).length=32:=Prf.side_length hp hf width hlt
        have hdnl:(dc (p.side width h)).length=32:=by rw [aj,hnl]
        have hdel:(dc (aK width h)).length=32:=by rw [aj,hdle]
        have hts:ts.length=h+1:=by rw [hTS.len,p.texts_len]
        have htl:(p.text width k (h+1)).length≤73:=Prf.text_len hp hf width hk ag
        apply wp_skip
        refine hK47 _ _ ?_
        apply wp_seq_k; intro K49 hK49
        apply wp_block
        refine wS hF fun K50 hK50=>vX O<|vX O<|vV O (bi O Tu uX (by exact congrArg (fun A=>some (Value.slice A 257 cE)) hAE) rfl h rfl ag rfl) fun a hF=>?_
        refine vR hF<|vV O (aQ O (Hq.sub hA60.q (dZ (TI _ (TI _ (TI _ ((TF ..))))))) O hce (h*32) hele rfl herd vw) fun a hF=>?_
        refine au O (fun K hK=>bG hF O ae rfl hA60 (jE) (fun b62 w63 a hb62 hF hA64=>hK _ _ ?_))
        refine au O (fun K hK=>aI (new:=dc (aK width h)) hF O O hA64 O O 0 O (by rw [hdel]; rfl) (bz _) uX (fun w65 hA66=>hK _ _ ?_))
        replace hA66:Hp w0 ([row b62 25 (dc (aK width h))]::XL::(txS ts)::[row b53 25 (dc (p.lead width k h))]::ZE::[row b1 25 (dc k)]::[row b4 30 (p.cells (.slice sA p.ss.length sC))]::[row b7 25 (dc (List.replicate 32 0))]::[row b10 25 (dc (List.replicate 32 0))]::R) w65:=hA66
        refine az<|hK50 _ _ ?_
        apply wp_seq_k; intro K51 hK51
        refine wS hF fun K52 hK52=>vV O (aT O hA66.q O 6 O OL (by rw [Prf.c_len hp]; decide) (Prf.c_all hp)) fun a hF=>?_
        refine vR hF<|vX O fun a hF=>?_
        refine au O (fun K hK=>ax hF O ae AV rfl rfl ?_)
        with_reducible refine (Ep w0 _ ([row b62 25 (dc (aK width h))]::XL::(txS ts)::[row b53 25 (dc (p.lead width k h))]::ZE::[row b1 25 (dc k)]::[row b4 30 (p.cells (.slice sA p.ss.length sC))]::[row b7 25 (dc (List.replicate 32 0))]::[row b10 25 (dc (List.replicate 32 0))]::R) p (.slice sA p.ss.length sC) hp h hlt hA66).mono ?_
        rintro e' w67 ⟨rfl,hA68⟩
        refine ⟨_,rfl,fun a hF=>hK _ _ ?_⟩
        replace hA68:Hp w0 ([row b62 25 (dc (aK width h))]::XL::(txS ts)::[row b53 25 (dc (p.lead width k h))]::ZE::[row b1 25 (dc k)]::[row b4 30 (p.cells (.slice sA p.ss.length sC))]::[row b7 25 (dc (List.replicate 32 0))]::[row b10 25 (dc (List.replicate 32 0))]::R) w67:=hA68
        refine az<|hK52 _ _ ?_
        have hJn:∀ (a:Act) (x:World),Fr 159 [(14,.int .i64 ((dh p.bs (h+1):Nat):Int)),(0,.int .i64 width),(4,.pointer (some ⟨b1,0,none⟩)),(5,.pointer (some ⟨b4,0,none⟩)),(7,.pointer (some ⟨b7,0,none⟩)),(9,.pointer (some ⟨b10,0,none⟩)),(12,.slice AE 257 cE),(20,.pointer (some ⟨b53,0,none⟩)),(21,.int .i64 (h:Int)),(19,tv),(22,.pointer (some ⟨b62,0,none⟩))] a→Hp w0 ([row b62 25 (dc (p.side width h))]::XL::(txS ts)::[row b53 25 (dc (p.lead width k h))]::ZE::[row b1 25 (dc k)]::[row b4 30 (p.cells (.slice sA p.ss.length sC))]::[row b7 25 (dc (List.replicate 32 0))]::[row b10 25 (dc (List.replicate 32 0))]::R) x→K51 a x:=by
         clear hF
         intro a x hF hAj
         refine hK51 _ _ ?_
         apply wp_seq_k; intro K53 hK53
         apply wp_seq_k; intro K54 hK54
         by_cases hkb:bK k (255-h)=0
         ·refine wp_region_lit ?_
          refine vR hF<|vV O (yZ (new:=dc k) rfl hAj.q O 5 O vw hdk)<|vX O<|vV O (dm O O O (show IntKind.i64.wrap (255-(h:Int))=((255-h:Nat):Int) by rw [TB _ ag]; omega)) fun a hF=>?_
          refine au O (fun K hK=>ax hF O ae GZ rfl rfl ?_)
          with_reducible refine (ng w0 _ ([row b62 25 (dc (p.side width h))]::XL::(txS ts)::[row b53 25 (dc (p.lead width k h))]::ZE::[row b1 25 (dc k)]::[row b4 30 (p.cells (.slice sA p.ss.length sC))]::[row b7 25 (dc (List.replicate 32 0))]::[row b10 25 (dc (List.replicate 32 0))]::R) k (255-h) hk ag hAj).mono ?_
          rintro e' w69 ⟨rfl,hA70⟩
          refine ⟨_,rfl,fun a hF=>hK _ _ ?_⟩
          replace hA70:Hp w0 ([row b62 25 (dc (p.side width h))]::XL::(txS ts)::[row b53 25 (dc (p.lead width k h))]::ZE::[row b1 25 (dc k)]::[row b4 30 (p.cells (.slice sA p.ss.length sC))]::[row b7 25 (dc (List.replicate 32 0))]::[row b10 25 (dc (List.replicate 32 0))]::R) w69:=hA70
          refine vR hF<|vV O (aH O O O O (gJ ag))<|vE hK54<|vT1 O fun a hF=>?_
          refine ak 3 [2,3,4] [0,1,2,3,4] _ af af (Hq.drew hA70.q) ?_
          have hA71:=Hl.drew hA70
          refine pR hF<|pW O O (fun _=>dG O Tz D5 rfl (.none 0) (.none 32) (Tv _) (TG _) (kF _ _ _))<|pW O O (fun _=>dG O Tz D5 rfl (.none 0) (.none 32) (Tv _) (TG _) (kF _ _ _)) fun a hF=>?_
          refine bM O O O (fun K hK=>jY (qs := #[(0,.slice (some ⟨b53,0,none⟩) 32 32),(1,.slice (some ⟨b62,0,none⟩) 32 32)]) (cells := #[.slice (some ⟨b53,0,none⟩) 32 32,.slice (some ⟨b62,0,none⟩) 32 32]) hF O ae rfl hA71 O (Bo _ _ _ _ _ _) (fun b72 w73 a hb72 hF hA74=>hK _ _ (fun _=>?_) ?_))
          ·exact (qT hA74)
          have hps:PcS w0 ([row b72 70 [.slice (some ⟨b53,0,none⟩) 32 32,.slice (some ⟨b62,0,none⟩) 32 32]]::[row b62 25 (dc (p.side width h))]::XL::(txS ts)::[row b53 25 (dc (p.lead width k h))]::ZE::[row b1 25 (dc k)]::[row b4 30 (p.cells (.slice sA p.ss.length sC))]::[row b7 25 (dc (List.replicate 32 0))]::[row b10 25 (dc (List.replicate 32 0))]::R) (some ⟨b72,0,none⟩) [(some ⟨b53,0,none⟩,32,(p.lead width k h)),(some ⟨b62,0,none⟩,32,(p.side width h))]:=vH (by rw [hll,hnl]; exact Rc.ofRow (i:=0) (off:=0) rfl rfl) (by rw [hll]; decide) (by rw [hnl]; decide) (Rc.ofRow (i:=4) (off:=0) rfl (by rw [List.drop_zero]; exact List.take_length ..)) (Rc.ofRow (i:=1) (off:=0) rfl (by rw [List.drop_zero]; exact List.take_length ..))
          refine bM O O O (fun K hK=>ax hF O ae P5 rfl rfl ?_)
          with_reducible refine (yS w0 _ ([row b72 70 [.slice (some ⟨b53,0,none⟩) 32 32,.slice (some ⟨b62,0,none⟩) 32 32]]::[row b62 25 (dc (p.side width h))]::XL::(txS ts)::[row b53 25 (dc (p.lead width k h))]::ZE::[row b1 25 (dc k)]::[row b4 30 (p.cells (.slice sA p.ss.length sC))]::[row b7 25 (dc (List.replicate 32 0))]::[row b10 25 (dc (List.replicate 32 0))]::R) _ _ _ _ _ _ _ hps hll hnl hA74).mono ?_
          rintro e' w75 ⟨A1,c1,Z,rfl,hZ,hA76⟩
          refine ⟨_,rfl,fun a hF=>hK _ _ (fun h=>absurd h ae) ?_⟩
          replace hA76:Hp w0 (Z::[row b72 70 [.slice (some ⟨b53,0,none⟩) 32 32,.slice (some ⟨b62,0,none⟩) 32 32]]::[row b62 25 (dc (p.side width h))]::XL::(txS ts)::[row b53 25 (dc (p.lead width k h))]::ZE::[row b1 25 (dc k)]::[row b4 30 (p.cells (.slice sA p.ss.length sC))]::[row b7 25 (dc (List.replicate 32 0))]::[row b10 25 (dc (List.replicate 32 0))]::R) w75:=hA76
          rw [show (4::((p.lead width k h)++(p.side width h)):List UInt8)=p.text width k (h+1) from (Prf.text_0 (p:=p) (width:=width) hkb).symm] at hZ hF
          refine bY hF O O O O ae _ (bJ O O) (fun h=>absurd h ae) (fun a hF=>?_)
          refine aB ?_
          refine hK53 _ _ ?_
          refine wS hF fun K55 hK55=>vX O<|vX O fun a hF=>?_
          refine au O (fun K hK=>nK (u1:= .slice A1 (p.text width k (h+1)).length c1) hF O ae rfl hA76 O (tH _ _ _) (fun b77 w78 a hb77 hF hA79=>hK _ _ ?_))
          refine au O (fun K hK=>dI hF O ae rfl hA79 4 O hTS.lst TL rD rfl rfl (Rc.srcC (W:=[.slice A1 (p.text width k (h+1)).length c1]) (m:=1) (size:=1) (R:=[row b77 70 [.slice A1 ((p.text width k (h+1)).length) c1]]::Z::[row b72 70 [.slice (some ⟨b53,0,none⟩) 32 32,.slice (some ⟨b62,0,none⟩) 32 32]]::[row b62 25 (dc (p.side width h))]::XL::(txS ts)::[row b53 25 (dc (p.lead width k h))]::ZE::[row b1 25 (dc k)]::[row b4 30 (p.cells (.slice sA p.ss.length sC))]::[row b7 25 (dc (List.replicate 32 0))]::[row b10 25 (dc (List.replicate 32 0))]::R) (Rc.ofRow (i:=0) (off:=0) rfl rfl) hA79.q TL ae rfl (by simp [Value.oneCell'])) ag ae (fun tv2 XL2 w80 a hL2 hF hA81=>hK _ _ ?_))
          replace hA81:Hp w0 ([row b77 70 [.slice A1 ((p.text width k (h+1)).length) c1]]::Z::[row b72 70 [.slice (some ⟨b53,0,none⟩) 32 32,.slice (some ⟨b62,0,none⟩) 32 32]]::[row b62 25 (dc (p.side width h))]::XL2::(txS ts)::[row b53 25 (dc (p.lead width k h))]::ZE::[row b1 25 (dc k)]::[row b4 30 (p.cells (.slice sA p.ss.length sC))]::[row b7 25 (dc (List.replicate 32 0))]::[row b10 25 (dc (List.replicate 32 0))]::R) w80:=hA81
          refine vR hF<|vX O<|vE hK55 fun a hF=>?_
          refine wp_region_lit ?_
          refine vR hF<|vX O fun a hF=>?_
          refine au O (fun K hK=>ax hF O ae Qc rfl rfl ?_)
          with_reducible refine (zO w0 _ ([row b77 70 [.slice A1 ((p.text width k (h+1)).length) c1]]::Z::[row b72 70 [.slice (some ⟨b53,0,none⟩) 32 32,.slice (some ⟨b62,0,none⟩) 32 32]]::[row b62 25 (dc (p.side width h))]::XL2::(txS ts)::[row b53 25 (dc (p.lead width k h))]::ZE::[row b1 25 (dc k)]::[row b4 30 (p.cells (.slice sA p.ss.length sC))]::[row b7 25 (dc (List.replicate 32 0))]::[row b10 25 (dc (List.replicate 32 0))]::R) [Z] (dZ (TI _ ((TF ..)))) A1 (p.text width k (h+1)) c1 _ O hZ ag hA81).mono ?_
          rintro e' w82 ⟨rfl,hA83⟩
          refine ⟨_,rfl,fun a hF=>hK _ _ ?_⟩
          replace hA83:Hp w0 ([row b77 70 [.slice A1 ((p.text width k (h+1)).length) c1]]::Z::[row b72 70 [.slice (some ⟨b53,0,none⟩) 32 32,.slice (some ⟨b62,0,none⟩) 32 32]]::[row b62 25 (dc (p.side width h))]::XL2::(txS ts)::[row b53 25 (dc (p.lead width k h))]::ZE::[row b1 25 (dc k)]::[row b4 30 (p.cells (.slice sA p.ss.length sC))]::[row b7 25 (dc (List.replicate 32 0))]::[row b10 25 (dc (List.replicate 32 0))]::R) w82:=hA83
          refine vR hF<|vX O fun a hF=>?_
          refine au O (fun K hK=>ax hF O ae PV rfl rfl ?_)
          with_reducible refine (zQ w0 _ ([row b77 70 [.slice A1 ((p.text width k (h+1)).length) c1]]::Z::[row b72 70 [.slice (some ⟨b53,0,none⟩) 32 32,.slice (some ⟨b62,0,none⟩) 32 32]]::[row b62 25 (dc (p.side width h))]::XL2::(txS ts)::[row b53 25 (dc (p.lead width k h))]::ZE::[row b1 25 (dc k)]::[row b4 30 (p.cells (.slice sA p.ss.length sC))]::[row b7 25 (dc (List.replicate 32 0))]::[row b10 25 (dc (List.replicate 32 0))]::R) (sha (p.text width k (h+1))) width (dH _) hA83).mono ?_
          rintro e' w84 ⟨rfl,hA85⟩
          refine ⟨_,rfl,fun a hF=>hK _ _ ?_⟩
          replace hA85:Hp w0 ([row b77 70 [.slice A1 ((p.text width k (h+1)).length) c1]]::Z::[row b72 70 [.slice (some ⟨b53,0,none⟩) 32 32,.slice (some ⟨b62,0,none⟩) 32 32]]::[row b62 25 (dc (p.side width h))]::XL2::(txS ts)::[row b53 25 (dc (p.lead width k h))]::ZE::[row b1 25 (dc k)]::[row b4 30 (p.cells (.slice sA p.ss.length sC))]::[row b7 25 (dc (List.replicate 32 0))]::[row b10 25 (dc (List.replicate 32 0))]::R) w84:=hA85
          rw [← p.lead_eq width k (h+1)] at hF
          refine au O (fun K hK=>aI (new:=dc (p.lead width k (h+1))) hF O O hA85 O O 6 O (by rw [aj,aj,p.lead_length,p.lead_length]) (bz _) (by rw [hdll]; exact uX) (fun w86 hA87=>hK _ _ ?_))
          replace hA87:Hp w0 ([row b77 70 [.slice A1 ((p.text width k (h+1)).length) c1]]::Z::[row b72 70 [.slice (some ⟨b53,0,none⟩) 32 32,.slice (some ⟨b62,0,none⟩) 32 32]]::[row b62 25 (dc (p.side width h))]::XL2::(txS ts)::[row b53 25 (dc (p.lead width k (h+1)))]::ZE::[row b1 25 (dc k)]::[row b4 30 (p.cells (.slice sA p.ss.length sC))]::[row b7 25 (dc (List.replicate 32 0))]::[row b10 25 (dc (List.replicate 32 0))]::R) w86:=hA87
          refine az<|hK49 _ _ ?_
          refine wp_region_lit ?_
          refine vR hF<|vX O<|vV O (bH O O O (TB _ ag))<|vX O fun a hF=>?_
          refine az ?_
          have hTS2:=hTS.snoc hZ hL2
          rw [← p.texts_succ] at hTS2
          have hA88:Hp w0 (XL2::(txS ts)::Z::[row b53 25 (dc (p.lead width k (h+1)))]::ZE::[row b1 25 (dc k)]::[row b4 30 (p.cells (.slice sA p.ss.length sC))]::[row b7 25 (dc (List.replicate 32 0))]::[row b10 25 (dc (List.replicate 32 0))]::R) w86:=hpS 12 [4,5,1,6,7,8,9,10,11] [0,2,3] hA87 rfl
          have hA89:Hp w0 (XL2::(txS (ts++[⟨.slice A1 (p.text width k (h+1)).length c1,p.text width k (h+1),Z⟩]))::[row b53 25 (dc (p.lead width k (h+1)))]::ZE::[row b1 25 (dc k)]::[row b4 30 (p.cells (.slice sA p.ss.length sC))]::[row b7 25 (dc (List.replicate 32 0))]::[row b10 25 (dc (List.replicate 32 0))]::R) w86:=hA88.cast (by simp [txS])
          exact ⟨h+1,ag,_,tv2,XL2,ag,hTS2,hF.keep [21,14,19,0,4,5,7,9,12,20] rfl,hA89⟩
         ·refine wp_region_lit ?_
          refine vR hF<|vV O (yZ (new:=dc k) rfl hAj.q O 5 O vw hdk)<|vX O<|vV O (dm O O O (show IntKind.i64.wrap (255-(h:Int))=((255-h:Nat):Int) by rw [TB _ ag]; omega)) fun a hF=>?_
          refine au O (fun K hK=>ax hF O ae GZ rfl rfl ?_)
          with_reducible refine (ng w0 _ ([row b62 25 (dc (p.side width h))]::XL::(txS ts)::[row b53 25 (dc (p.lead width k h))]::ZE::[row b1 25 (dc k)]::[row b4 30 (p.cells (.slice sA p.ss.length sC))]::[row b7 25 (dc (List.replicate 32 0))]::[row b10 25 (dc (List.replicate 32 0))]::R) k (255-h) hk ag hAj).mono ?_
          rintro e' w90 ⟨rfl,hA91⟩
          refine ⟨_,rfl,fun a hF=>hK _ _ ?_⟩
          replace hA91:Hp w0 ([row b62 25 (dc (p.side width h))]::XL::(txS ts)::[row b53 25 (dc (p.lead width k h))]::ZE::[row b1 25 (dc k)]::[row b4 30 (p.cells (.slice sA p.ss.length sC))]::[row b7 25 (dc (List.replicate 32 0))]::[row b10 25 (dc (List.replicate 32 0))]::R) w90:=hA91
          refine vR hF<|vV O (aH O O O O (fJ ag))<|vE hK54<|vF1 O fun a hF=>?_
          refine ak 3 [2,3,4] [0,1,2,3,4] _ af af (Hq.drew hA91.q) ?_
          have hA92:=Hl.drew hA91
          refine pR hF<|pW O O (fun _=>dG O Tz D5 rfl (.none 0) (.none 32) (Tv _) (TG _) (kF _ _ _))<|pW O O (fun _=>dG O Tz D5 rfl (.none 0) (.none 32) (Tv _) (TG _) (kF _ _ _)) fun a hF=>?_
          refine bM O O O (fun K hK=>jY (qs := #[(0,.slice (some ⟨b62,0,none⟩) 32 32),(1,.slice (some ⟨b53,0,none⟩) 32 32)]) (cells := #[.slice (some ⟨b62,0,none⟩) 32 32,.slice (some ⟨b53,0,none⟩) 32 32]) hF O ae rfl hA92 O (Bo _ _ _ _ _ _) (fun b93 w94 a hb93 hF hA95=>hK _ _ (fun _=>?_) ?_))
          ·exact (qT hA95)
          have hps:PcS w0 ([row b93 70 [.slice (some ⟨b62,0,none⟩) 32 32,.slice (some ⟨b53,0,none⟩) 32 32]]::[row b62 25 (dc (p.side width h))]::XL::(txS ts)::[row b53 25 (dc (p.lead width k h))]::ZE::[row b1 25 (dc k)]::[row b4 30 (p.cells (.slice sA p.ss.length sC))]::[row b7 25 (dc (List.replicate 32 0))]::[row b10 25 (dc (List.replicate 32 0))]::R) (some ⟨b93,0,none⟩) [(some ⟨b62,0,none⟩,32,(p.side width h)),(some ⟨b53,0,none⟩,32,(p.lead width k h))]:=vH (by rw [hnl,hll]; exact Rc.ofRow (i:=0) (off:=0) rfl rfl) (by rw [hnl]; decide) (by rw [hll]; decide) (Rc.ofRow (i:=1) (off:=0) rfl (by rw [List.drop_zero]; exact List.take_length ..)) (Rc.ofRow (i:=4) (off:=0) rfl (by rw [List.drop_zero]; exact List.take_length ..))
          refine bM O O O (fun K hK=>ax hF O ae P5 rfl rfl ?_)
          with_reducible refine (yS w0 _ ([row b93 70 [.slice (some ⟨b62,0,none⟩) 32 32,.slice (some ⟨b53,0,none⟩) 32 32]]::[row b62 25 (dc (p.side width h))]::XL::(txS ts)::[row b53 25 (dc (p.lead width k h))]::ZE::[row b1 25 (dc k)]::[row b4 30 (p.cells (.slice sA p.ss.length sC))]::[row b7 25 (dc (List.replicate 32 0))]::[row b10 25 (dc (List.replicate 32 0))]::R) _ _ _ _ _ _ _ hps hnl hll hA95).mono ?_
          rintro e' w96 ⟨A1,c1,Z,rfl,hZ,hA97⟩
          refine ⟨_,rfl,fun a hF=>hK _ _ (fun h=>absurd h ae) ?_⟩
          replace hA97:Hp w0 (Z::[row b93 70 [.slice (some ⟨b62,0,none⟩) 32 32,.slice (some ⟨b53,0,none⟩) 32 32]]::[row b62 25 (dc (p.side width h))]::XL::(txS ts)::[row b53 25 (dc (p.lead width k h))]::ZE::[row b1 25 (dc k)]::[row b4 30 (p.cells (.slice sA p.ss.length sC))]::[row b7 25 (dc (List.replicate 32 0))]::[row b10 25 (dc (List.replicate 32 0))]::R) w96:=hA97
          rw [show (4::((p.side width h)++(p.lead width k h)):List UInt8)=p.text width k (h+1) from (Prf.text_1 (p:=p) (width:=width) hkb).symm] at hZ hF
          refine bY hF O O O O ae _ (bJ O O) (fun h=>absurd h ae) (fun a hF=>?_)
          refine aB ?_
          refine hK53 _ _ ?_
          refine wS hF fun K56 hK56=>vX O<|vX O fun a hF=>?_
          refine au O (fun K hK=>nK (u1:= .slice A1 (p.text width k (h+1)).length c1) hF O ae rfl hA97 O (tH _ _ _) (fun b98 w99 a hb98 hF hA100=>hK _ _ ?_))
          refine au O (fun K hK=>dI hF O ae rfl hA100 4 O hTS.lst TL rD rfl rfl (Rc.srcC (W:=[.slice A1 (p.text width k (h+1)).length c1]) (m:=1) (size:=1) (R:=[row b98 70 [.slice A1 ((p.text width k (h+1)).length) c1]]::Z::[row b93 70 [.slice (some ⟨b62,0,none⟩) 32 32,.slice (some ⟨b53,0,none⟩) 32 32]]::[row b62 25 (dc (p.side width h))]::XL::(txS ts)::[row b53 25 (dc (p.lead width k h))]::ZE::[row b1 25 (dc k)]::[row b4 30 (p.cells (.slice sA p.ss.length sC))]::[row b7 25 (dc (List.replicate 32 0))]::[row b10 25 (dc (List.replicate 32 0))]::R) (Rc.ofRow (i:=0) (off:=0) rfl rfl) hA100.q TL ae rfl (by simp [Value.oneCell'])) ag ae (fun tv2 XL2 w101 a hL2 hF hA102=>hK _ _ ?_))
          replace hA102:Hp w0 ([row b98 70 [.slice A1 ((p.text width k (h+1)).length) c1]]::Z::[row b93 70 [.slice (some ⟨b62,0,none⟩) 32 32,.slice (some ⟨b53,0,none⟩) 32 32]]::[row b62 25 (dc (p.side width h))]::XL2::(txS ts)::[row b53 25 (dc (p.lead width k h))]::ZE::[row b1 25 (dc k)]::[row b4 30 (p.cells (.slice sA p.ss.length sC))]::[row b7 25 (dc (List.replicate 32 0))]::[row b10 25 (dc (List.replicate 32 0))]::R) w101:=hA102
          refine vR hF<|vX O<|vE hK56 fun a hF=>?_
          refine wp_region_lit ?_
          refine vR hF<|vX O fun a hF=>?_
          refine au O (fun K hK=>ax hF O ae Qc rfl rfl ?_)
          with_reducible refine (zO w0 _ ([row b98 70 [.slice A1 ((p.text width k (h+1)).length) c1]]::Z::[row b93 70 [.slice (some ⟨b62,0,none⟩) 32 32,.slice (some ⟨b53,0,none⟩) 32 32]]::[row b62 25 (dc (p.side width h))]::XL2::(txS ts)::[row b53 25 (dc (p.lead width k h))]::ZE::[row b1 25 (dc k)]::[row b4 30 (p.cells (.slice sA p.ss.length sC))]::[row b7 25 (dc (List.replicate 32 0))]::[row b10 25 (dc (List.replicate 32 0))]::R) [Z] (dZ (TI _ ((TF ..)))) A1 (p.text width k (h+1)) c1 _ O hZ ag hA102).mono ?_
          rintro e' w103 ⟨rfl,hA104⟩
          refine ⟨_,rfl,fun a hF=>hK _ _ ?_⟩
          replace hA104:Hp w0 ([row b98 70 [.slice A1 ((p.text width k (h+1)).length) c1]]::Z::[row b93 70 [.slice (some ⟨b62,0,none⟩) 32 32,.slice (some ⟨b53,0,none⟩) 32 32]]::[row b62 25 (dc (p.side width h))]::XL2::(txS ts)::[row b53 25 (dc (p.lead width k h))]::ZE::[row b1 25 (dc k)]::[row b4 30 (p.cells (.slice sA p.ss.length sC))]::[row b7 25 (dc (List.replicate 32 0))]::[row b10 25 (dc (List.replicate 32 0))]::R) w103:=hA104
          refine vR hF<|vX O fun a hF=>?_
          refine au O (fun K hK=>ax hF O ae PV rfl rfl ?_)
          with_reducible refine (zQ w0 _ ([row b98 70 [.slice A1 ((p.text width k (h+1)).length) c1]]::Z::[row b93 70 [.slice (some ⟨b62,0,none⟩) 32 32,.slice (some ⟨b53,0,none⟩) 32 32]]::[row b62 25 (dc (p.side width h))]::XL2::(txS ts)::[row b53 25 (dc (p.lead width k h))]::ZE::[row b1 25 (dc k)]::[row b4 30 (p.cells (.slice sA p.ss.length sC))]::[row b7 25 (dc (List.replicate 32 0))]::[row b10 25 (dc (List.replicate 32 0))]::R) (sha (p.text width k (h+1))) width (dH _) hA104).mono ?_
          rintro e' w105 ⟨rfl,hA106⟩
          refine ⟨_,rfl,fun a hF=>hK _ _ ?_⟩
          replace hA106:Hp w0 ([row b98 70 [.slice A1 ((p.text width k (h+1)).length) c1]]::Z::[row b93 70 [.slice (some ⟨b62,0,none⟩) 32 32,.slice (some ⟨b53,0,none⟩) 32 32]]::[row b62 25 (dc (p.side width h))]::XL2::(txS ts)::[row b53 25 (dc (p.lead width k h))]::ZE::[row b1 25 (dc k)]::[row b4 30 (p.cells (.slice sA p.ss.length sC))]::[row b7 25 (dc (List.replicate 32 0))]::[row b10 25 (dc (List.replicate 32 0))]::R) w105:=hA106
          rw [← p.lead_eq width k (h+1)] at hF
          refine au O (fun K hK=>aI (new:=dc (p.lead width k (h+1))) hF O O hA106 O O 6 O (by rw [aj,aj,p.lead_length,p.lead_length]) (bz _) (by rw [hdll]; exact uX) (fun w107 hA108=>hK _ _ ?_))
          replace hA108:Hp w0 ([row b98 70 [.slice A1 ((p.text width k (h+1)).length) c1]]::Z::[row b93 70 [.slice (some ⟨b62,0,none⟩) 32 32,.slice (some ⟨b53,0,none⟩) 32 32]]::[row b62 25 (dc (p.side width h))]::XL2::(txS ts)::[row b53 25 (dc (p.lead width k (h+1)))]::ZE::[row b1 25 (dc k)]::[row b4 30 (p.cells (.slice sA p.ss.length sC))]::[row b7 25 (dc (List.replicate 32 0))]::[row b10 25 (dc (List.replicate 32 0))]::R) w107:=hA108
          refine az<|hK49 _ _ ?_
          refine wp_region_lit ?_
          refine vR hF<|vX O<|vV O (bH O O O (TB _ ag))<|vX O fun a hF=>?_
          refine az ?_
          have hTS2:=hTS.snoc hZ hL2
          rw [← p.texts_succ] at hTS2
          have hA109:Hp w0 (XL2::(txS ts)::Z::[row b53 25 (dc (p.lead width k (h+1)))]::ZE::[row b1 25 (dc k)]::[row b4 30 (p.cells (.slice sA p.ss.length sC))]::[row b7 25 (dc (List.replicate 32 0))]::[row b10 25 (dc (List.replicate 32 0))]::R) w107:=hpS 12 [4,5,1,6,7,8,9,10,11] [0,2,3] hA108 rfl
          have hA110:Hp w0 (XL2::(txS (ts++[⟨.slice A1 (p.text width k (h+1)).length c1,p.text width k (h+1),Z⟩]))::[row b53 25 (dc (p.lead width k (h+1)))]::ZE::[row b1 25 (dc k)]::[row b4 30 (p.cells (.slice sA p.ss.length sC))]::[row b7 25 (dc (List.replicate 32 0))]::[row b10 25 (dc (List.replicate 32 0))]::R) w107:=hA109.cast (by simp [txS])
          exact ⟨h+1,ag,_,tv2,XL2,ag,hTS2,hF.keep [21,14,19,0,4,5,7,9,12,20] rfl,hA110⟩
        by_cases hb:iF p.bs h=true
        ·refine aZ hF O hb ?_
         obtain ⟨hsl,hsat⟩:=Prf.dig_at hf hb hlt
         have hdl:(p.dig h).length=32:=Prf.dig_length hp hf hb hlt
         have hddl:(dc (p.dig h)).length=32:=by rw [aj,hdl]
         obtain ⟨hsr,hsr2⟩:=JY hp hsat
         obtain ⟨b,q,hsA,hc⟩:=hS.ne (i:=dh p.bs h*32) ag
         have ho:dh p.bs (h+1)=dh p.bs h+1:=by show dh p.bs h+jo p.bs h=_; rw [sZ hb]
         have hol:=mG p.bs h
         refine wS hF fun K57 hK57=>vV O (yf 66 rfl TW O rC O)<|vV O (aX O hA68.q O 6 O (Prf.c_sums hp) rQ)<|vX O<|vV O (bi O Tu uX (by exact congrArg (fun A=>some (Value.slice A p.ss.length sC)) hsA) rfl (dh p.bs h) rfl hsl rfl) fun a hF=>?_
         refine vR hF<|vV O (aQ O (Hq.sub hA68.q (List.Subset.trans hG (aA (aA (aA (aA (aA (aA (aA (aA (aA (bu)))))))))))) O hc (dh p.bs h*32) hsr2 rfl hsr vw) fun a hF=>?_
         refine au O (fun K hK=>aI (new:=dc (p.dig h)) hF O O hA68 O O 0 O (by rw [hddl,hdel]) (bz _) (by rw [hdel]; exact uX) (fun w111 hA112=>hK _ _ ?_))
         replace hA112:Hp w0 ([row b62 25 (dc (p.dig h))]::XL::(txS ts)::[row b53 25 (dc (p.lead width k h))]::ZE::[row b1 25 (dc k)]::[row b4 30 (p.cells (.slice sA p.ss.length sC))]::[row b7 25 (dc (List.replicate 32 0))]::[row b10 25 (dc (List.replicate 32 0))]::R) w111:=hA112
         refine az<|hK57 _ _ ?_
         refine wp_region_lit ?_
         refine vR hF<|vX O<|vV O (bH O O O (show IntKind.i64.wrap (((dh p.bs h:Nat):Int)+1)=((dh p.bs (h+1):Nat):Int) by rw [TB _ ag,ho]; omega)) fun a hF=>?_
         refine vR hF<|vX O fun a hF=>?_
         refine az ?_
         rw [Prf.side_of (width:=width) hb] at hA112
         exact hJn _ _ (hF.keep [14,0,4,5,7,9,12,20,21,19,22] rfl) hA112
        ·have hb0:iF p.bs h=false:=by simpa using hb
         have ho:dh p.bs (h+1)=dh p.bs h:=by show dh p.bs h+jo p.bs h=_; rw [vN hb0]; rfl
         refine aS hF O hb0 ?_
         apply wp_skip
         rw [← ho] at hF
         have hA113:Hp w0 ([row b62 25 (dc (p.side width h))]::XL::(txS ts)::[row b53 25 (dc (p.lead width k h))]::ZE::[row b1 25 (dc k)]::[row b4 30 (p.cells (.slice sA p.ss.length sC))]::[row b7 25 (dc (List.replicate 32 0))]::[row b10 25 (dc (List.replicate 32 0))]::R) w67:=by rw [← Prf.side_no hb0]; exact hA68
         exact hJn _ _ (hF.keep [14,0,4,5,7,9,12,20,21,19,22] rfl) hA113
       ·refine aS hF O (dD ag) ?_
        obtain rfl:h=256:=by omega
        have hrl:(dc (p.lead width k 256)).length=32:=by rw [aj,p.lead_length]
        apply wp_exit
        refine hK45 _ _ ?_
        apply wp_seq_k; intro K58 hK58
        refine ak 3 [3,4] [0,1,2,3,4] _ af af (Hq.drew hA60.q) ?_
        have hA114:=Hl.drew hA60
        refine pR hF<|pX O O<|pV O O (fun x hx=>yZ (new:=dc (p.lead width k 256)) O hx O 2 O vw hrl)<|pX O O fun a hF=>?_
        refine bM O O O (fun K hK=>aI (new:=dc (p.lead width k 256)) hF O O hA114 O O 6 O (by rw [hrl]; rfl) (bz _) (by exact uX) (fun w115 hA116=>hK _ _ (fun h=>absurd h ae) ?_))
        replace hA116:Hp w0 (XL::(txS ts)::[row b53 25 (dc (p.lead width k 256))]::ZE::[row b1 25 (dc k)]::[row b4 30 (p.cells (.slice sA p.ss.length sC))]::[row b7 25 (dc (p.lead width k 256))]::[row b10 25 (dc (List.replicate 32 0))]::R) w115:=hA116
        refine bY hF O O O O ae _ (bJ O O) (fun h=>absurd h ae) (fun a hF=>?_)
        refine aB ?_
        refine hK58 _ _ ?_
        apply wp_ret
        refine pq hF Tryz.results22 hA116.q O O O 6 O (by rw [hrl]; exact vw) ?_
        have hA117:Hp w0 (XL::(txS ts)::R) w115:=hpS 8 [0,1] [2,3,4,5,6,7] hA116 rfl
        exact ⟨ts,tv,XL,by unfold Prf.to; rw [hee]; rfl,by rw [if_pos hee]; exact hTS,hA117⟩
      by_cases hpr:p.pr=true
      ·refine aZ hF O hpr ?_
       refine ak 9 [4,8,9,10] [0,1,2,3,5,6,7,4,8,9,10] _ af af (Hq.drew hA45.q) ?_
       have hA118:=Hl.drew hA45
       refine pR hF<|pW O O (fun _=>dG O Tz D5 rfl (.none 0) (.none 32) (Tv _) (TG _) (kF _ _ _))<|pW O O (fun _=>yf 1 O TW O Bz O)<|pW O O (fun _=>yf 1 O Uf O QY O)<|pV O O (fun x hx=>aX O hx O 3 O O Bq)<|pW O O (fun _=>yf 1 O TW O Bz O)<|pW O O (fun _=>yf 2 O Uf O uX O)<|pW O O (fun _=>dG O Tz D5 rfl (.none 0) (.none 32) (Tv _) (TG _) (kF _ _ _)) fun a hF=>?_
       refine bM O O O (fun K hK=>ax hF O ae PO rfl rfl ?_)
       with_reducible refine (J6 w0 _ (Z::ZE::[row b1 25 (dc k)]::[row b4 30 (p.cells (.slice sA p.ss.length sC))]::[row b7 25 (dc (List.replicate 32 0))]::[row b10 25 (dc (List.replicate 32 0))]::R) p.ct hA118).mono ?_
       rintro e' w119 ⟨gc,rfl,hA120⟩
       refine ⟨_,rfl,fun a hF=>hK _ _ (fun _=>?_) ?_⟩
       ·exact (qT hA120)
       replace hA120:Hp w0 ([row gc 5 (dc (be 8 (c64 p.ct)))]::Z::ZE::[row b1 25 (dc k)]::[row b4 30 (p.cells (.slice sA p.ss.length sC))]::[row b7 25 (dc (List.replicate 32 0))]::[row b10 25 (dc (List.replicate 32 0))]::R) w119:=hA120
       refine bM O O O (fun K hK=>jY (qs := #[(0,.slice (some ⟨b1,0,none⟩) 32 32),(1,.slice (some ⟨gc,0,none⟩) 8 8),(2,.slice (some ⟨b4,2,none⟩) 32 32)]) (cells := #[.slice (some ⟨b1,0,none⟩) 32 32,.slice (some ⟨gc,0,none⟩) 8 8,.slice (some ⟨b4,2,none⟩) 32 32]) hF O ae rfl hA120 O (Bl _ _ _ _ _ _ _ _ _) (fun b121 w122 a hb121 hF hA123=>hK _ _ (fun _=>?_) ?_))
       ·exact Hp.qp [[row b121 70 [.slice (some ⟨b1,0,none⟩) 32 32,.slice (some ⟨gc,0,none⟩) 8 8,.slice (some ⟨b4,2,none⟩) 32 32]],[row gc 5 (dc (be 8 (c64 p.ct)))],Z,ZE,[row b1 25 (dc k)],[row b4 30 (p.cells (.slice sA p.ss.length sC))],[row b7 25 (dc (List.replicate 32 0))],[row b10 25 (dc (List.replicate 32 0))]] R [2,3,4,5,6,7] hA123
       have hps:PcS w0 ([row b121 70 [.slice (some ⟨b1,0,none⟩) 32 32,.slice (some ⟨gc,0,none⟩) 8 8,.slice (some ⟨b4,2,none⟩) 32 32]]::[row gc 5 (dc (be 8 (c64 p.ct)))]::Z::ZE::[row b1 25 (dc k)]::[row b4 30 (p.cells (.slice sA p.ss.length sC))]::[row b7 25 (dc (List.replicate 32 0))]::[row b10 25 (dc (List.replicate 32 0))]::R) (some ⟨b121,0,none⟩) [(some ⟨b1,0,none⟩,32,k),(some ⟨gc,0,none⟩,8,be 8 (c64 p.ct)),(some ⟨b4,2,none⟩,32,p.ch)]:=zf (by rw [hk,fH,hp.ch]; exact Rc.ofRow (i:=0) (off:=0) rfl rfl) (by rw [hk]; decide) (by rw [fH]; decide) (by rw [hp.ch]; decide) (Rc.ofRow (i:=4) (off:=0) rfl (by rw [List.drop_zero]; exact List.take_length ..)) (Rc.ofRow (i:=1) (off:=0) rfl (by rw [List.drop_zero]; exact List.take_length ..)) (Rc.ofRow (i:=5) (off:=2) rfl (by rw [aj,hp.ch]; exact Prf.c_chain hp))
       refine bM O O O (fun K hK=>ax hF O ae P5 rfl rfl ?_)
       with_reducible refine (Hy w0 _ ([row b121 70 [.slice (some ⟨b1,0,none⟩) 32 32,.slice (some ⟨gc,0,none⟩) 8 8,.slice (some ⟨b4,2,none⟩) 32 32]]::[row gc 5 (dc (be 8 (c64 p.ct)))]::Z::ZE::[row b1 25 (dc k)]::[row b4 30 (p.cells (.slice sA p.ss.length sC))]::[row b7 25 (dc (List.replicate 32 0))]::[row b10 25 (dc (List.replicate 32 0))]::R) _ _ _ _ _ _ _ _ _ _ hps hk (fH _ _) hp.ch hA123).mono ?_
       rintro e' w124 ⟨A1,c1,Z1,rfl,hZ1,hA125⟩
       refine ⟨_,rfl,fun a hF=>hK _ _ (fun h=>absurd h ae) ?_⟩
       replace hA125:Hp w0 (Z1::[row b121 70 [.slice (some ⟨b1,0,none⟩) 32 32,.slice (some ⟨gc,0,none⟩) 8 8,.slice (some ⟨b4,2,none⟩) 32 32]]::[row gc 5 (dc (be 8 (c64 p.ct)))]::Z::ZE::[row b1 25 (dc k)]::[row b4 30 (p.cells (.slice sA p.ss.length sC))]::[row b7 25 (dc (List.replicate 32 0))]::[row b10 25 (dc (List.replicate 32 0))]::R) w124:=hA125
       have ht0:p.text0 k=3::(k++be 8 (c64 p.ct)++p.ch):=by unfold Prf.text0; rw [hpr]; rfl
       rw [← ht0] at hZ1 hF
       refine bY hF O O O O ae _ (bJ O O) (fun h=>absurd h ae) (fun a hF=>?_)
       refine aB ?_
       have hA126:Hp w0 (Z1::ZE::[row b1 25 (dc k)]::[row b4 30 (p.cells (.slice sA p.ss.length sC))]::[row b7 25 (dc (List.replicate 32 0))]::[row b10 25 (dc (List.replicate 32 0))]::R) w124:=hpS 9 [0,4,5,6,7,8] [1,2,3] hA125 rfl
       exact hJ _ _ A1 c1 Z1 (hF.keep [18,0,4,5,7,9,12] rfl) hZ1 hA126
      ·have hp0:p.pr=false:=by simpa using hpr
       have ht0:p.text0 k=[5]:=by unfold Prf.text0; rw [hp0]; rfl
       rw [← ht0] at hZ0 hF
       refine aS hF O hp0 ?_
       apply wp_skip
       exact hJ _ _ A0 c0 Z (hF.keep [18,0,4,5,7,9,12] rfl) hZ0 hA45
    by_cases hgt:32<z
    ·refine aZ hF O (mM ag) ?_
     refine wp_region_lit ?_
     refine vR hF<|vX O fun a hF=>?_
     refine az ?_
     exact hJ2 _ _ 32 (by rw [Df]; omega) (hF.keep [13,0,4,5,7,9,12] rfl) hAj
    ·refine aS hF O (nT ag) ?_
     apply wp_skip
     exact hJ2 _ _ z (by rw [Df]; omega) (hF.keep [13,0,4,5,7,9,12] rfl) hAj
   by_cases hlo:width<1
   ·refine aZ hF O (dB ag) ?_
    refine wp_region_lit ?_
    refine vR hF<|vX O fun a hF=>?_
    refine az ?_
    exact hJ1 _ _ 1 ag (hF.keep [13,0,4,5,7,9,12] rfl) hA21
   ·refine aS hF O (dD ag) ?_
    apply wp_skip
    exact hJ1 _ _ width ag (hF.keep [13,0,4,5,7,9,12] rfl) hA21
  have hErr:∀ (a:Act) (x:World),p.formed=false→Fr 159 [(58,.bool true),(0,.int .i64 width),(4,.pointer (some ⟨b1,0,none⟩)),(5,.pointer (some ⟨b4,0,none⟩)),(7,.pointer (some ⟨b7,0,none⟩)),(9,.pointer (some ⟨b10,0,none⟩))] a→Hp w0 ([row b1 25 (dc k)]::[row b4 30 (p.cells (.slice sA p.ss.length sC))]::[row b7 25 (dc (List.replicate 32 0))]::[row b10 25 (dc (List.replicate 32 0))]::R) x→K11 a x:=by
   clear hF
   intro a x hf hF hAj
   clear hGood
   refine hK11 _ _ ?_
   refine eP hF O ?_
   apply wp_seq_k; intro K59 hK59
   refine ak 2 [2,3] [0,1,2,3] _ af af (Hq.drew hAj.q) ?_
   have hA127:=Hl.drew hAj
   refine pR hF<|pV O O (fun x hx=>yZ (new:=dc (List.replicate 32 0)) O hx O 3 O vw hz32)<|pX O O fun a hF=>?_
   refine bM O O O (fun K hK=>aI (new:=dc (List.replicate 32 0)) hF O O hA127 O O 2 O O (bz _) uX (fun w128 hA129=>hK _ _ (fun h=>absurd h ae) ?_))
   replace hA129:Hp w0 ([row b1 25 (dc k)]::[row b4 30 (p.cells (.slice sA p.ss.length sC))]::[row b7 25 (dc (List.replicate 32 0))]::[row b10 25 (dc (List.replicate 32 0))]::R) w128:=hA129
   refine bY hF O O O O ae _ (bJ O O) (fun h=>absurd h ae) (fun a hF=>?_)
   refine aB ?_
   refine hK59 _ _ ?_
   apply wp_ret
   simp only [Exit.then]
   refine pq hF Tryz.results22 hA129.q O O O 2 O vw ?_
   have hA130:Hp w0 (R) w128:=hpS 4 [] [0,1,2,3] hA129 rfl
   have hee:p.err width=8:=Prf.err_form hf
   exact ⟨[],_,[],by unfold Prf.to; rw [hee]; rfl,by rw [hee]; exact RTxsS.none w0,Hp.nil (Hp.nil hA130)⟩
  by_cases heq:dh p.bs 256=p.ss.length
  ·by_cases hpr:p.pr=true
   ·by_cases hrt:1≤p.ct∧p.ct≤1099511627776
    ·refine wp_region_lit ?_
     refine vR hF<|vX O<|vV O (yf 66 rfl TW O rC O)<|vV O (aX O hA16.q O 1 O (Prf.c_sums hp) rQ)<|vV O (aY O Tu O O)<|vV O (aH O O O O (jb ag))<|vX O<|vG O (yf 0 O TW O Om O)<|vG O (aX O hA16.q O 1 O (show (p.cells (.slice sA p.ss.length sC))[0]? = some (.bool true) by rw [← hpr]; rfl) Ph) fun a hF=>?_
     refine vR hF<|vG O (bT O O)<|vG O (yf 1 O TW O Bz O)<|vG O (aT O hA16.q O 1 O BN (by rw [Prf.c_len hp]; decide) (Prf.c_ent hp)) fun a hF=>?_
     refine lm hF O O O O (fun K hK=>ax hF O ae G5 rfl rfl ?_)
     with_reducible refine (nN w0 _ ([row b1 25 (dc k)]::[row b4 30 (p.cells (.slice sA p.ss.length sC))]::[row b7 25 (dc (List.replicate 32 0))]::[row b10 25 (dc (List.replicate 32 0))]::R) p.ct p.ch hA16).mono ?_
     rintro e' w131 ⟨rfl,hA132⟩
     refine ⟨_,rfl,fun a hF=>hK _ _ ?_⟩
     replace hA132:Hp w0 ([row b1 25 (dc k)]::[row b4 30 (p.cells (.slice sA p.ss.length sC))]::[row b7 25 (dc (List.replicate 32 0))]::[row b10 25 (dc (List.replicate 32 0))]::R) w131:=hA132
     rw [decide_eq_true hrt] at hF
     refine vR hF<|vG O (eU O O O)<|vG O (bg O O O)<|vV O (bg O O O)<|vX O<|vG O (yf 0 O TW O Om O)<|vG O (aX O hA132.q O 1 O (show (p.cells (.slice sA p.ss.length sC))[0]? = some (.bool true) by rw [← hpr]; rfl) Ph) fun a hF=>?_
     refine vR hF<|vG O (eU O O O)<|vG O (bT O O)<|vS O<|vS O<|vS O<|vS O<|vG O (bg O O O)<|vV O (bg O O O) fun a hF=>?_
     refine az ?_
     exact hGood _ _ (by unfold Prf.formed Prf.counted; rw [decide_eq_true heq,hpr]; simp only [if_true,Bool.true_and]; exact decide_eq_true hrt) (hF.keep [58,0,4,5,7,9] rfl) hA132
    ·refine wp_region_lit ?_
     refine vR hF<|vX O<|vV O (yf 66 rfl TW O rC O)<|vV O (aX O hA16.q O 1 O (Prf.c_sums hp) rQ)<|vV O (aY O Tu O O)<|vV O (aH O O O O (jb ag))<|vX O<|vG O (yf 0 O TW O Om O)<|vG O (aX O hA16.q O 1 O (show (p.cells (.slice sA p.ss.length sC))[0]? = some (.bool true) by rw [← hpr]; rfl) Ph) fun a hF=>?_
     refine vR hF<|vG O (bT O O)<|vG O (yf 1 O TW O Bz O)<|vG O (aT O hA16.q O 1 O BN (by rw [Prf.c_len hp]; decide) (Prf.c_ent hp)) fun a hF=>?_
     refine lm hF O O O O (fun K hK=>ax hF O ae G5 rfl rfl ?_)
     with_reducible refine (nN w0 _ ([row b1 25 (dc k)]::[row b4 30 (p.cells (.slice sA p.ss.length sC))]::[row b7 25 (dc (List.replicate 32 0))]::[row b10 25 (dc (List.replicate 32 0))]::R) p.ct p.ch hA16).mono ?_
     rintro e' w133 ⟨rfl,hA134⟩
     refine ⟨_,rfl,fun a hF=>hK _ _ ?_⟩
     replace hA134:Hp w0 ([row b1 25 (dc k)]::[row b4 30 (p.cells (.slice sA p.ss.length sC))]::[row b7 25 (dc (List.replicate 32 0))]::[row b10 25 (dc (List.replicate 32 0))]::R) w133:=hA134
     rw [decide_eq_false hrt] at hF
     refine vR hF<|vG O (eU O O O)<|vG O (bg O O O)<|vV O (bg O O O)<|vX O<|vS O<|vS O<|vS O<|vS O fun a hF=>?_
     refine dW hF O O O O O ae (fun a hF=>?_)
     refine dW hF O O O O O ae (fun a hF=>?_)
     refine dW hF O O O O O ae (fun a hF=>?_)
     refine dW hF O O O O O ae (fun a hF=>?_)
     refine vR hF<|vS O<|vV O (bg O O O) fun a hF=>?_
     refine az ?_
     exact hErr _ _ (by unfold Prf.formed Prf.counted; rw [decide_eq_true heq,hpr]; simp only [if_true,Bool.true_and]; exact decide_eq_false hrt) (hF.keep [58,0,4,5,7,9] rfl) hA134
   ·have hpr0:p.pr=false:=by simpa using hpr
    by_cases hbl:p.ct=0∧p.ch=List.replicate 32 0
    ·refine wp_region_lit ?_
     refine vR hF<|vX O<|vV O (yf 66 rfl TW O rC O)<|vV O (aX O hA16.q O 1 O (Prf.c_sums hp) rQ)<|vV O (aY O Tu O O)<|vV O (aH O O O O (jb ag))<|vX O<|vG O (yf 0 O TW O Om O)<|vG O (aX O hA16.q O 1 O (show (p.cells (.slice sA p.ss.length sC))[0]? = some (.bool false) by rw [← hpr0]; rfl) Ph) fun a hF=>?_
     refine vR hF<|vG O (bT O O)<|vS O<|vS O<|vS O<|vS O<|vG O (bg O O O)<|vV O (bg O O O)<|vX O<|vG O (yf 0 O TW O Om O)<|vG O (aX O hA16.q O 1 O (show (p.cells (.slice sA p.ss.length sC))[0]? = some (.bool false) by rw [← hpr0]; rfl) Ph) fun a hF=>?_
     refine vR hF<|vG O (eU O O O)<|vG O (bT O O)<|vG O (yf 1 O TW O Bz O)<|vG O (aT O hA16.q O 1 O BN (by rw [Prf.c_len hp]; decide) (Prf.c_ent hp)) fun a hF=>?_
     refine vR hF<|vG O (nM O zS)<|vG O (FO O af af af pI ae ae rfl rfl TP Tz TA D5 uX hp.ch rfl rfl rfl (show (!decide (p.ct=0∧p.ch=List.replicate 32 0))=false by rw [decide_eq_true hbl]; rfl)) fun a hF=>?_
     refine vR hF<|vG O (bg O O O)<|vV O (bg O O O) fun a hF=>?_
     refine az ?_
     exact hGood _ _ (by unfold Prf.formed Prf.blank; rw [decide_eq_true heq,hpr0]; simp only [Bool.false_eq_true,if_false,Bool.true_and]; exact decide_eq_true hbl) (hF.keep [58,0,4,5,7,9] rfl) hA16
    ·refine wp_region_lit ?_
     refine vR hF<|vX O<|vV O (yf 66 rfl TW O rC O)<|vV O (aX O hA16.q O 1 O (Prf.c_sums hp) rQ)<|vV O (aY O Tu O O)<|vV O (aH O O O O (jb ag))<|vX O<|vG O (yf 0 O TW O Om O)<|vG O (aX O hA16.q O 1 O (show (p.cells (.slice sA p.ss.length sC))[0]? = some (.bool false) by rw [← hpr0]; rfl) Ph) fun a hF=>?_
     refine vR hF<|vG O (bT O O)<|vS O<|vS O<|vS O<|vS O<|vG O (bg O O O)<|vV O (bg O O O)<|vX O<|vG O (yf 0 O TW O Om O)<|vG O (aX O hA16.q O 1 O (show (p.cells (.slice sA p.ss.length sC))[0]? = some (.bool false) by rw [← hpr0]; rfl) Ph) fun a hF=>?_
     refine vR hF<|vG O (eU O O O)<|vG O (bT O O)<|vG O (yf 1 O TW O Bz O)<|vG O (aT O hA16.q O 1 O BN (by rw [Prf.c_len hp]; decide) (Prf.c_ent hp)) fun a hF=>?_
     refine vR hF<|vG O (nM O zS)<|vG O (FO O af af af pI ae ae rfl rfl TP Tz TA D5 uX hp.ch rfl rfl rfl (show (!decide (p.ct=0∧p.ch=List.replicate 32 0))=true by rw [decide_eq_false hbl]; rfl)) fun a hF=>?_
     refine vR hF<|vG O (bg O O O)<|vV O (bg O O O) fun a hF=>?_
     refine az ?_
     exact hErr _ _ (by unfold Prf.formed Prf.blank; rw [decide_eq_true heq,hpr0]; simp only [Bool.false_eq_true,if_false,Bool.true_and]; exact decide_eq_false hbl) (hF.keep [58,0,4,5,7,9] rfl) hA16
  ·refine wp_region_lit ?_
   refine vR hF<|vX O<|vV O (yf 66 rfl TW O rC O)<|vV O (aX O hA16.q O 1 O (Prf.c_sums hp) rQ)<|vV O (aY O Tu O O)<|vV O (aH O O O O (nS ag))<|vX O<|vS O<|vS O<|vS O fun a hF=>?_
   refine dW hF O O O O O ae (fun a hF=>?_)
   refine dW hF O O O O O ae (fun a hF=>?_)
   refine dW hF O O O O O ae (fun a hF=>?_)
   refine dW hF O O O O O ae (fun a hF=>?_)
   refine vR hF<|vS O<|vV O (bg O O O)<|vX O<|vS O<|vS O<|vS O<|vS O fun a hF=>?_
   refine dW hF O O O O O ae (fun a hF=>?_)
   refine dW hF O O O O O ae (fun a hF=>?_)
   refine dW hF O O O O O ae (fun a hF=>?_)
   refine dW hF O O O O O ae (fun a hF=>?_)
   refine vR hF<|vS O<|vV O (bg O O O) fun a hF=>?_
   refine az ?_
   exact hErr _ _ (by unfold Prf.formed; rw [decide_eq_false heq]; rfl) (hF.keep [58,0,4,5,7,9] rfl) hA16
theorem yU (w0 w:World) (R G:List Seg) (hG:G⊆R) (p:Prf) (sA:Option Addr) (sC:Nat) (width:Int) (root k:List UInt8) (hp:p.OK) (hr:root.length=32) (hk:k.length=32) (hS:Rc w0 G sA (fF p.ss)) (hA:Hp w0 R w):Calls Tryz.prog 26 #[.int .i64 width,.agg (dc root).toArray,.agg (dc k).toArray,.agg (p.cells (.slice sA p.ss.length sC)).toArray] w fun e w'=>e= .returned (.int .i64 ((p.check width root k:Nat):Int))∧Hp w0 R w':=by
 have hdk:(dc k).length=32:=by rw [aj,hk]
 have hdr:(dc root).length=32:=by rw [aj,hr]
 have htl:(dc (p.to width k)).length=32:=by rw [aj,p.to_length]
 refine aJ Tryz.func26 O Tryz.ntmps26 ai (fun a hF=>?_)
 refine wp_seq_k fun K1 hK1=>wp_region_lit ?_
 refine au O (fun K hK=>bC (cs:=dc root) hF O ae rfl hA O (fun b1 w2 a hb1 hF hA3=>hK _ _ ?_))
 refine au O (fun K hK=>bC (cs:=dc k) hF O ae rfl hA3 O (fun b4 w5 a hb4 hF hA6=>hK _ _ ?_))
 refine au O (fun K hK=>bC (cs:=p.cells (.slice sA p.ss.length sC)) hF O ae rfl hA6 O (fun b7 w8 a hb7 hF hA9=>hK _ _ ?_))
 refine vR hF<|vX O<|vE hK1<|wT fun K2 hK2=>vX O<|vV O (yZ (new:=dc k) rfl hA9.q O 1 O vw hdk)<|vV O (aT O hA9.q O 0 O OL (by rw [Prf.c_len hp]; decide) (Prf.c_all hp)) fun a hF=>?_
 refine au O (fun K hK=>ax hF O ae Qe rfl rfl ?_)
 with_reducible refine (yT w0 _ ([row b7 30 (p.cells (.slice sA p.ss.length sC))]::[row b4 25 (dc k)]::[row b1 25 (dc root)]::R) G (List.Subset.trans hG (aA (aA (aA (bu))))) p sA sC width k hp hk hS hA9).mono ?_
 rintro e' w10 ⟨ts,tv,XL,rfl,_,hA11⟩
 refine ⟨_,rfl,fun a hF=>hK _ _ ?_⟩
 refine vR hF<|vX O<|vV O (cu (v:=tv) rfl rfl rfl)<|vV O (cu (v:= .agg (dc (p.to width k)).toArray) rfl rfl rfl)<|vV O (cu (v:= .int .i64 ((p.err width:Nat):Int)) O O O) fun a hF=>?_
 refine au O (fun K hK=>bG hF O ae rfl hA11 (jE) (fun b12 w13 a hb12 hF hA14=>hK _ _ ?_))
 refine vR hF<|vX O fun a hF=>?_
 refine au O (fun K hK=>aI (new:=dc (p.to width k)) hF O O hA14 O O 0 O (by rw [htl]; rfl) (bz _) uX (fun w15 hA16=>hK _ _ ?_))
 replace hA16:Hp w0 ([row b12 25 (dc (p.to width k))]::XL::(txS ts)::[row b7 30 (p.cells (.slice sA p.ss.length sC))]::[row b4 25 (dc k)]::[row b1 25 (dc root)]::R) w15:=hA16
 refine vR hF<|vX O<|vE hK2<|wQ fun K3 hK3=>wQ fun K4 hK4 a hF=>?_
 by_cases he:p.err width=0
 ·have hto:p.to width k=p.lead width k 256:=by unfold Prf.to; rw [if_pos he]
  refine wp_region_lit ?_
  refine vR hF<|vX O<|vV O (aH O O O O (jb ag))<|vE hK4<|vF1 O fun a hF=>?_
  by_cases heq:p.lead width k 256=root
  ·apply wp_skip
   refine hK3 _ _ ?_
   apply wp_seq_k; intro K5 hK5
   refine wS hF fun K6 hK6=>vV O (yZ (new:=dc (p.to width k)) O hA16.q O 0 O vw htl)<|vV O (yZ (new:=dc root) rfl hA16.q O 5 O vw hdr)<|vV O (kS O Tz TA D5 af rfl rfl (p.to_length ..) hr (show (!decide (p.to width k=root))=false by rw [hto]; simp [heq]))<|vE hK6 fun a hF=>?_
   refine dL hF O ?_
   apply wp_skip
   refine hK5 _ _ ?_
   refine wS hF fun K7 hK7=>vX O<|vE hK7 fun a hF=>?_
   apply wp_ret
   refine aO hF Tryz.results26 O ?_
   have hA17:Hp w0 (R) w15:=hpS 6 [] [0,1,2,3,4,5] hA16 rfl
   exact ⟨by rw [Prf.check_ok he heq]; rfl,hA17⟩
  ·apply wp_skip
   refine hK3 _ _ ?_
   apply wp_seq_k; intro K8 hK8
   refine wS hF fun K9 hK9=>vV O (yZ (new:=dc (p.to width k)) O hA16.q O 0 O vw htl)<|vV O (yZ (new:=dc root) rfl hA16.q O 5 O vw hdr)<|vV O (kS O Tz TA D5 af rfl rfl (p.to_length ..) hr (show (!decide (p.to width k=root))=true by rw [hto]; simp [heq]))<|vE hK9 fun a hF=>?_
   refine eP hF O ?_
   refine wS hF fun K10 hK10=>vX O<|vE hK10 fun a hF=>?_
   apply wp_ret
   simp only [Exit.then]
   refine aO hF Tryz.results26 O ?_
   have hA18:Hp w0 (R) w15:=hpS 6 [] [0,1,2,3,4,5] hA16 rfl
   exact ⟨by rw [Prf.check_root he heq]; rfl,hA18⟩
 ·refine wp_region_lit ?_
  refine vR hF<|vX O<|vV O (aH O O O O (nS ag))<|vE hK4<|vT1 O<|wT fun K11 hK11=>vX O<|vX O<|vE hK11 fun a hF=>?_
  apply wp_ret
  simp only [Exit.then]
  refine aO hF Tryz.results26 O ?_
  have hA19:Hp w0 (R) w15:=hpS 6 [] [0,1,2,3,4,5] hA16 rfl
  exact ⟨by rw [Prf.check_err he],hA19⟩
end Go.Proofs.YtpomngkcfbnjoaaGreatDoor
