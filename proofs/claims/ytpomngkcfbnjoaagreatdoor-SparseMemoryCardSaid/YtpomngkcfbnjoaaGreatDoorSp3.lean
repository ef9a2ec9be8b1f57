/- The texts of a sparse proof. -/
import Derived.Test.YtpomngkcfbnjoaaGreatDoorSp2
/- The texts of a sparse proof. -/
namespace Go.Proofs.YtpomngkcfbnjoaaGreatDoor
open Go.RowKit Go.Dk
theorem AY:aG Tryz.prog 71:=⟨_,Tryz.func71,af,af⟩
theorem vM:aG Tryz.prog 70:=⟨_,Tryz.func70,af,af⟩
theorem GX:aG Tryz.prog 63:=⟨_,Tryz.func63,af,af⟩
theorem Jo:bV Tryz.prog 127 (.agg (dc (List.replicate 8 0)).toArray):=by unfold bV; kernel_rfl
theorem tH (A:Option Addr) (n c:Nat) (w:World):(Instr.buildSlice 41 1 #[(0,.slice A n c)]).run Tryz.prog w= .ok (.slice (some ⟨w.heap.size,0,none⟩) 1 1) (w.alloc (.cells #[.slice A n c] 70)):=af
theorem rD:gK Tryz.prog 70 1 24:=jd (z:= .slice none 0 0) af af
theorem GK (l m:List UInt8):[l,m].flatten=l++m:=by simp
theorem flat3 (l m k:List UInt8):[l,m,k].flatten=l++m++k:=by simp
theorem J3 (w0 w:World) (R:List Seg) (hA:Hp w0 R w):Calls Tryz.prog 70 #[.int .i64 5,.slice none 0 0] w fun e w'=>∃ v Z,e= .returned v∧Buf 5 1 Z v ([5]:List UInt8).length (dc [5])∧Hp w0 (Z::R) w' :=
 zL w0 w R [] (List.nil_subset _) 5 5 ae none [] [] 0 0 rfl rfl (Gs w0 []) ae ae hA
theorem BH (w0 w:World) (R:List Seg) (pa A B:Option Addr) (ca cb:Nat) (l m:List UInt8) (h:PcS w0 R pa [(A,ca,l),(B,cb,m)]) (hl:l.length=32) (hm:m.length=32) (hA:Hp w0 R w):Calls Tryz.prog 70 #[.int .i64 4,.slice pa 2 2] w fun e w'=>∃ v Z,e= .returned v∧Buf 5 1 Z v (4::(l++m)).length (dc (4::(l++m)))∧Hp w0 (Z::R) w':=by
 have h1:=zL w0 w R R bu 4 4 ae pa [(A,ca,l),(B,cb,m)] [l,m] 2 2 rfl rfl h (by rw [GK,List.length_append]; omega) ae hA
 rw [GK] at h1
 exact h1
theorem JZ (w0 w:World) (R:List Seg) (pa A B C:Option Addr) (ca cb cc:Nat) (l m k:List UInt8) (h:PcS w0 R pa [(A,ca,l),(B,cb,m),(C,cc,k)]) (hl:l.length=32) (hm:m.length=8) (hk:k.length=32) (hA:Hp w0 R w):Calls Tryz.prog 70 #[.int .i64 3,.slice pa 3 3] w fun e w'=>∃ v Z,e= .returned v∧Buf 5 1 Z v (3::(l++m++k)).length (dc (3::(l++m++k)))∧Hp w0 (Z::R) w':=by
 have h1:=zL w0 w R R bu 3 3 ae pa [(A,ca,l),(B,cb,m),(C,cc,k)] [l,m,k] 3 3 rfl rfl h (by rw [flat3,List.length_append,List.length_append]; omega) ae hA
 rw [flat3] at h1
 exact h1
theorem Qp (N i:Nat) (hi:i<8):(dc ((be 8 N).take i++List.replicate (8-i) 0)).set i (.int .u8 ((UInt8.ofNat (N/256 ^ (7-i))).toNat:Int))=dc ((be 8 N).take (i+1)++List.replicate (8-(i+1)) 0):=by
 have hl:((be 8 N).take i).length=i:=by rw [List.length_take,fH]; omega
 have e:=LP 8 N i hi
 rw [show 8-1-i=7-i by omega] at e
 rw [← e,show 8-i=(8-(i+1))+1 by omega,List.replicate_succ,eG,List.set_append,if_neg (by rw [aj,hl]; omega),aj,hl,Nat.sub_self,eG,eG,List.append_assoc]
 rfl
theorem Q4 {ct:Int} (h:0≤ct∧ct≤1099511627776) (i:Nat) (hi:i<8):IntKind.u8.wrap (ct.fdiv (2 ^ min (8*(7-(i:Int))).toNat IntKind.i64.bits))=((UInt8.ofNat (c64 ct/256 ^ (7-i))).toNat:Int):=by
 have e:ct=((c64 ct:Nat):Int):=by unfold c64; omega
 have h1:=Ak (c64 ct) (7-i) (8*(7-i)) rfl ag
 rw [← e,show ((8*(7-i):Nat):Int)=8*(7-(i:Int)) by omega] at h1
 exact h1
theorem Prf.text_len {p:Prf} (hp:p.OK) (hf:p.formed=true) (width:Int) {k:List UInt8} (hk:k.length=32) {h:Nat} (hh:h≤256):(p.text width k h).length≤73:=by
 cases h with
 | zero =>
  show (p.text0 k).length≤73
  unfold Prf.text0
  split
  ·simp only [List.length_cons,List.length_append,hk,hp.ch,fH]; omega
  ·simp
 | succ h =>
  show (stepT k (p.lead width k h) (p.side width h) h).length≤73
  have h1:=p.lead_length width k h
  have h2:=Prf.side_length hp hf width (h:=h) ag
  unfold stepT
  split <;> simp only [List.length_cons,List.length_append,h1,h2] <;> omega
theorem Prf.text_0 {p:Prf} {width:Int} {k d n:List UInt8} {h:Nat} (hk:bK k (255-h)=0):stepT k d n h=4::(d++n):=by unfold stepT; rw [if_pos hk]
theorem Prf.text_1 {p:Prf} {width:Int} {k d n:List UInt8} {h:Nat} (hk:¬ bK k (255-h)=0):stepT k d n h=4::(n++d):=by unfold stepT; rw [if_neg hk]
structure TxsS (ts:List TxX) (L:List (List UInt8)) (tv:Value) (XL:Seg):Prop where
 bufs:∀ t∈ts,Buf 5 1 t.X t.v t.l.length (dc t.l)
 txt:ts.map (·.l)=L
 lst:Buf 70 1 XL tv ts.length (ts.map (·.v))
theorem TxsS.snoc {ts:List TxX} {L:List (List UInt8)} {tv v2 v:Value} {XL X2 Z:Seg} {l:List UInt8} (h:TxsS ts L tv XL) (hZ:Buf 5 1 Z v l.length (dc l)) (h2:Buf 70 1 X2 v2 (ts.length+1) (ts.map (·.v)++[v])):TxsS (ts++[⟨v,l,Z⟩]) (L++[l]) v2 X2:=by
 refine ⟨fun t ht=>?_,by rw [List.map_append,h.txt]; rfl,by rw [List.length_append,List.map_append]; exact h2⟩
 rcases List.mem_append.1 ht with ht | ht
 ·exact h.bufs t ht
 ·rw [List.mem_singleton.1 ht]; exact hZ
theorem TxsS.len {ts:List TxX} {L:List (List UInt8)} {tv:Value} {XL:Seg} (h:TxsS ts L tv XL):ts.length=L.length:=by rw [← h.txt,List.length_map]
def Prf.texts (p:Prf) (width:Int) (k:List UInt8) (n:Nat):List (List UInt8):=(List.range n).map (p.text width k)
theorem Prf.texts_succ (p:Prf) (width:Int) (k:List UInt8) (n:Nat):p.texts width k (n+1)=p.texts width k n++[p.text width k n]:=by unfold Prf.texts; rw [List.range_succ,List.map_append]; rfl
theorem Prf.texts_len (p:Prf) (width:Int) (k:List UInt8) (n:Nat):(p.texts width k n).length=n:=by unfold Prf.texts; rw [List.length_map,List.length_range]
theorem kF (g off n:Nat):Value.slice (sub (some ⟨g,off,none⟩) 0 n 1) (n-0) (n-0)= .slice (some ⟨g,off,none⟩) n n:=by rw [sub_zero]; rfl
theorem Ox {G R:List Seg} {a b c d e:Seg} (h:G⊆R):G⊆a::b::c::d::e::R:=fun _ hx=>TI _ (TI _ (TI _ (TI _ (TI _ (h hx)))))
set_option maxRecDepth 100000 in
set_option maxHeartbeats 2000000 in
theorem F6 (w0 w:World) (R G:List Seg) (hG:G⊆R) (p:Prf) (sv:Value) (width:Int) (k:List UInt8) (AB:Option Addr) (cB:Nat) (hp:p.OK) (hf:p.formed=true) (hk:k.length=32) (hT:Tab w0) (hS:Rc w0 G AB (dM (p.side width) 256)) (hA:Hp w0 R w):Calls Tryz.prog 44 #[.agg (p.cells sv).toArray,.int .i64 width,.agg (dc k).toArray,.slice AB 256 cB] w fun e w'=>∃ ts tv XL,e= .returned (.tuple #[tv,.agg (dc (p.lead width k 256)).toArray])∧TxsS ts (p.texts width k 257) tv XL∧Hp w0 (XL::txS ts::R) w':=by
 refine aJ Tryz.func44 O Tryz.ntmps44 ai (fun a hF=>?_)
 refine wp_seq_k fun K1 hK1=>wp_region_lit ?_
 refine au O (fun K hK=>bC (cs:=p.cells sv) hF O ae rfl hA O (fun b1 w2 a hb1 hF hA3=>hK _ _ ?_))
 refine au O (fun K hK=>bC (cs:=dc k) hF O ae rfl hA3 O (fun b4 w5 a hb4 hF hA6=>hK _ _ ?_))
 refine vR hF<|vX O fun a hF=>?_
 refine au O (fun K hK=>bG hF O ae rfl hA6 (jE) (fun b7 w8 a hb7 hF hA9=>hK _ _ ?_))
 refine az<|hK1 _ _ ?_
 refine wp_seq_k fun K2 hK2=>wp_region_lit ?_
 refine au O (fun K hK=>ax hF O ae vM rfl rfl ?_)
 with_reducible refine (J3 w0 _ ([row b7 25 (dc (List.replicate 32 0))]::[row b4 25 (dc k)]::[row b1 30 (p.cells sv)]::R) hA9).mono ?_
 rintro e' w10 ⟨v0,Z,rfl,hZ0,hA11⟩
 refine ⟨_,rfl,fun a hF=>hK _ _ ?_⟩
 replace hA11:Hp w0 (Z::[row b7 25 (dc (List.replicate 32 0))]::[row b4 25 (dc k)]::[row b1 30 (p.cells sv)]::R) w10:=hA11
 refine vR hF<|vX O<|vE hK2<|wQ fun K3 hK3=>wQ fun K4 hK4 a hF=>?_
 have hdk:(dc k).length=32:=by rw [aj,hk]
 refine wp_region_lit ?_
 refine vR hF<|vV O (yf 0 O TW O Om O)<|vV O (aX O hA11.q O 3 O O Ph)<|vE hK4 fun a hF=>?_
 have hJ:∀ (a:Act) (x:World) (A0:Option Addr) (c0:Nat) (Z:Seg),Fr 81 [(10,.slice A0 ((p.text0 k).length) c0),(1,.int .i64 width),(4,.pointer (some ⟨b1,0,none⟩)),(6,.pointer (some ⟨b4,0,none⟩)),(9,.pointer (some ⟨b7,0,none⟩)),(3,.slice AB 256 cB)] a→Buf 5 1 Z (.slice A0 (p.text0 k).length c0) (p.text0 k).length (dc (p.text0 k))→Hp w0 (Z::[row b4 25 (dc k)]::[row b7 25 (dc (List.replicate 32 0))]::R) x→K3 a x:=by
  clear hF
  intro a x A0 c0 Z hF hZ hAj
  obtain ⟨_,_,_,hzz,hc0,hR0⟩:=hZ.rd (w0:=w0) (R:=[Z]) (TF ..)
  injection hzz with hz1 _ hz2
  subst hz1 hz2
  have htl0:(p.text0 k).length≤73:=Prf.text_len hp hf width hk (h:=0) (Tv _)
  refine hK3 _ _ ?_
  refine wS hF fun K5 hK5=>vX O fun a hF=>?_
  refine au O (fun K hK=>nK (u1:= .slice A0 (p.text0 k).length c0) hF O ae rfl hAj O (tH _ _ _) (fun b12 w13 a hb12 hF hA14=>hK _ _ ?_))
  refine vR hF<|vX O<|vE hK5<|wT fun K6 hK6=>vX O fun a hF=>?_
  refine au O (fun K hK=>ax hF O ae AY rfl rfl ?_)
  with_reducible refine (Eo w0 _ ([row b12 70 [.slice A0 ((p.text0 k).length) c0]]::Z::[row b4 25 (dc k)]::[row b7 25 (dc (List.replicate 32 0))]::R) [Z] (dZ (TI _ ((TF ..)))) A0 (p.text0 k) c0 _ O hR0 hc0 ag hT hA14).mono ?_
  rintro e' w15 ⟨rfl,hA16⟩
  refine ⟨_,rfl,fun a hF=>hK _ _ ?_⟩
  replace hA16:Hp w0 ([row b12 70 [.slice A0 ((p.text0 k).length) c0]]::Z::[row b4 25 (dc k)]::[row b7 25 (dc (List.replicate 32 0))]::R) w15:=hA16
  refine vR hF<|vX O fun a hF=>?_
  refine au O (fun K hK=>ax hF O ae PX rfl rfl ?_)
  with_reducible refine (wG w0 _ ([row b12 70 [.slice A0 ((p.text0 k).length) c0]]::Z::[row b4 25 (dc k)]::[row b7 25 (dc (List.replicate 32 0))]::R) (sha (p.text0 k)) width (dH _) hA16).mono ?_
  rintro e' w17 ⟨rfl,hA18⟩
  refine ⟨_,rfl,fun a hF=>hK _ _ ?_⟩
  replace hA18:Hp w0 ([row b12 70 [.slice A0 ((p.text0 k).length) c0]]::Z::[row b4 25 (dc k)]::[row b7 25 (dc (List.replicate 32 0))]::R) w17:=hA18
  rw [show gZ (sha (p.text0 k)) width=p.lead width k 0 from rfl] at hF
  refine au O (fun K hK=>bG hF O ae rfl hA18 (jE) (fun b19 w20 a hb19 hF hA21=>hK _ _ ?_))
  refine au O (fun K hK=>aI (new:=dc (p.lead width k 0)) hF O O hA21 O O 0 O (by rw [aj,p.lead_length]; rfl) (bz _) uX (fun w22 hA23=>hK _ _ ?_))
  replace hA23:Hp w0 ([row b19 25 (dc (p.lead width k 0))]::[row b12 70 [.slice A0 ((p.text0 k).length) c0]]::Z::[row b4 25 (dc k)]::[row b7 25 (dc (List.replicate 32 0))]::R) w22:=hA23
  refine az<|hK6 _ _ ?_
  apply wp_seq_k; intro K7 hK7
  refine wS hF fun K8 hK8=>vX O<|vV O (aY O Tu O O)<|vX O<|vE hK8<|wBk fun a hF=>?_
  have hTS0:TxsS [⟨.slice A0 (p.text0 k).length c0,p.text0 k,Z⟩] (p.texts width k 1) (.slice (some ⟨b12,0,none⟩) 1 1) [row b12 70 [.slice A0 (p.text0 k).length c0]]:=⟨fun t ht=>by rw [List.mem_singleton.1 ht]; exact hZ,rfl,Buf.full rfl ae⟩
  have hA24:Hp w0 ([row b12 70 [.slice A0 ((p.text0 k).length) c0]]::Z::[row b19 25 (dc (p.lead width k 0))]::[row b4 25 (dc k)]::[row b7 25 (dc (List.replicate 32 0))]::R) w22:=hpO 5 [1,2,0,3,4] hA23 rfl
  have hA25:Hp w0 ([row b12 70 [.slice A0 (p.text0 k).length c0]]::(txS [⟨.slice A0 (p.text0 k).length c0,p.text0 k,Z⟩])::[row b19 25 (dc (p.lead width k 0))]::[row b4 25 (dc k)]::[row b7 25 (dc (List.replicate 32 0))]::R) w22:=hA24.cast (by simp [txS])
  refine bQ (G:=Nat) (fun h a x=>∃ (ts:List TxX) (tv:Value) (XL:Seg),h≤256∧TxsS ts (p.texts width k (h+1)) tv XL∧Fr 81 [(52,.int .i64 (h:Int)),(13,tv),(1,.int .i64 width),(6,.pointer (some ⟨b4,0,none⟩)),(9,.pointer (some ⟨b7,0,none⟩)),(14,.pointer (some ⟨b19,0,none⟩)),(50,.slice AB 256 cB),(51,.int .i64 256)] a∧Hp w0 (XL::(txS ts)::[row b19 25 (dc (p.lead width k h))]::[row b4 25 (dc k)]::[row b7 25 (dc (List.replicate 32 0))]::R) x) (fun h=>256-h) 0 (⟨_,_,_,Tv _,hTS0,hF.keep [52,13,1,6,9,14,50,51] rfl,hA25⟩) ?_
  clear hF
  rintro h a w27 ⟨ts,tv,XL,hh,hTS,hF,hA26⟩
  refine wS hF fun K9 hK9=>vV O (aH O O O O O)<|vE hK9<|wQ fun K10 hK10 a hF=>?_
  by_cases hlt:h<256
  ·refine aZ hF O (dB ag) ?_
   have hsl:∀ i,i<256→(p.side width i).length=32:=fun i hi=>Prf.side_length hp hf width hi
   obtain ⟨hrd,hle⟩:=iY (p.side width) 256 h hsl hlt
   obtain ⟨b,q,hAB,hc⟩:=hS.ne (i:=h*32) ag
   have hdl:(p.lead width k h).length=32:=p.lead_length ..
   have hddl:(dc (p.lead width k h)).length=32:=by rw [aj,hdl]
   have hnl:(p.side width h).length=32:=hsl h hlt
   have hdnl:(dc (p.side width h)).length=32:=by rw [aj,hnl]
   have hts:ts.length=h+1:=by rw [hTS.len,p.texts_len]
   have htl:(p.text width k (h+1)).length≤73:=Prf.text_len hp hf width hk ag
   apply wp_skip
   refine hK10 _ _ ?_
   apply wp_seq_k; intro K11 hK11
   apply wp_block
   refine wS hF fun K12 hK12=>vX O<|vV O (bi O Tu uX (by exact congrArg (fun A=>some (Value.slice A 256 cB)) hAB) rfl h rfl hlt rfl) fun a hF=>?_
   refine vR hF<|vV O (aQ O (Hq.sub hA26.q (Ox hG)) O hc (h*32) hle rfl hrd vw) fun a hF=>?_
   refine au O (fun K hK=>bG hF O ae rfl hA26 (jE) (fun b28 w29 a hb28 hF hA30=>hK _ _ ?_))
   refine vR hF<|vX O fun a hF=>?_
   refine au O (fun K hK=>aI (new:=dc (p.side width h)) hF O O hA30 O O 0 O (by rw [aj,hnl]; rfl) (bz _) uX (fun w31 hA32=>hK _ _ ?_))
   replace hA32:Hp w0 ([row b28 25 (dc (p.side width h))]::XL::(txS ts)::[row b19 25 (dc (p.lead width k h))]::[row b4 25 (dc k)]::[row b7 25 (dc (List.replicate 32 0))]::R) w31:=hA32
   refine az<|hK12 _ _ ?_
   apply wp_seq_k; intro K13 hK13
   have hM:∀ (a:Act) (x:World) (gl gr:Nat),Fr 81 [(1,.int .i64 width),(6,.pointer (some ⟨b4,0,none⟩)),(9,.pointer (some ⟨b7,0,none⟩)),(14,.pointer (some ⟨b19,0,none⟩)),(50,.slice AB 256 cB),(51,.int .i64 256),(52,.int .i64 (h:Int)),(13,tv),(15,.int .i64 (h:Int)),(16,.pointer (some ⟨b28,0,none⟩)),(17,.pointer (some ⟨gl,0,none⟩)),(18,.pointer (some ⟨gr,0,none⟩))] a→Hp w0 ([row gl 25 (dc (p.lead width k h))]::[row gr 25 (dc (p.side width h))]::[row b28 25 (dc (p.side width h))]::XL::(txS ts)::[row b19 25 (dc (p.lead width k h))]::[row b4 25 (dc k)]::[row b7 25 (dc (List.replicate 32 0))]::R) x→K13 a x:=by
    clear hF
    intro a x gl gr hF hAm
    refine hK13 _ _ ?_
    apply wp_seq_k; intro K14 hK14
    apply wp_seq_k; intro K15 hK15
    by_cases hkb:bK k (255-h)=0
    ·refine wp_region_lit ?_
     refine vR hF<|vV O (yZ (new:=dc k) rfl hAm.q O 6 O vw hdk)<|vX O<|vV O (dm O O O (show IntKind.i64.wrap (255-(h:Int))=((255-h:Nat):Int) by rw [TB _ ag]; omega)) fun a hF=>?_
     refine au O (fun K hK=>ax hF O ae GX rfl rfl ?_)
     with_reducible refine (wI w0 _ ([row gl 25 (dc (p.lead width k h))]::[row gr 25 (dc (p.side width h))]::[row b28 25 (dc (p.side width h))]::XL::(txS ts)::[row b19 25 (dc (p.lead width k h))]::[row b4 25 (dc k)]::[row b7 25 (dc (List.replicate 32 0))]::R) k (255-h) hk ag hAm).mono ?_
     rintro e' w33 ⟨rfl,hA34⟩
     refine ⟨_,rfl,fun a hF=>hK _ _ ?_⟩
     replace hA34:Hp w0 ([row gl 25 (dc (p.lead width k h))]::[row gr 25 (dc (p.side width h))]::[row b28 25 (dc (p.side width h))]::XL::(txS ts)::[row b19 25 (dc (p.lead width k h))]::[row b4 25 (dc k)]::[row b7 25 (dc (List.replicate 32 0))]::R) w33:=hA34
     refine vR hF<|vV O (aH O O O O (fJ ag))<|vE hK15<|vF1 O<|wKp hK14<|wQ fun K16 hK16 a hF=>?_
     refine ak 3 [2,3,4] [0,1,2,3,4] _ af af (Hq.drew hA34.q) ?_
     have hA35:=Hl.drew hA34
     refine pR hF<|pW O O (fun _=>dG O Tz D5 rfl (.none 0) (.none 32) (Tv _) (TG _) (kF _ _ _))<|pW O O (fun _=>dG O Tz D5 rfl (.none 0) (.none 32) (Tv _) (TG _) (kF _ _ _)) fun a hF=>?_
     refine bM O O O (fun K hK=>jY (qs := #[(0,.slice (some ⟨gl,0,none⟩) 32 32),(1,.slice (some ⟨gr,0,none⟩) 32 32)]) (cells := #[.slice (some ⟨gl,0,none⟩) 32 32,.slice (some ⟨gr,0,none⟩) 32 32]) hF O ae rfl hA35 O (Bo _ _ _ _ _ _) (fun b36 w37 a hb36 hF hA38=>hK _ _ (fun _=>?_) ?_))
     ·exact (qT hA38)
     have hps:PcS w0 ([row b36 70 [.slice (some ⟨gl,0,none⟩) 32 32,.slice (some ⟨gr,0,none⟩) 32 32]]::[row gl 25 (dc (p.lead width k h))]::[row gr 25 (dc (p.side width h))]::[row b28 25 (dc (p.side width h))]::XL::(txS ts)::[row b19 25 (dc (p.lead width k h))]::[row b4 25 (dc k)]::[row b7 25 (dc (List.replicate 32 0))]::R) (some ⟨b36,0,none⟩) [(some ⟨gl,0,none⟩,32,(p.lead width k h)),(some ⟨gr,0,none⟩,32,(p.side width h))]:=vH (by rw [hdl,hnl]; exact Rc.ofRow (i:=0) (off:=0) rfl rfl) (by rw [hdl]; decide) (by rw [hnl]; decide) (Rc.ofRow (i:=1) (off:=0) rfl (by rw [List.drop_zero]; exact List.take_length ..)) (Rc.ofRow (i:=2) (off:=0) rfl (by rw [List.drop_zero]; exact List.take_length ..))
     refine bM O O O (fun K hK=>ax hF O ae vM rfl rfl ?_)
     with_reducible refine (BH w0 _ ([row b36 70 [.slice (some ⟨gl,0,none⟩) 32 32,.slice (some ⟨gr,0,none⟩) 32 32]]::[row gl 25 (dc (p.lead width k h))]::[row gr 25 (dc (p.side width h))]::[row b28 25 (dc (p.side width h))]::XL::(txS ts)::[row b19 25 (dc (p.lead width k h))]::[row b4 25 (dc k)]::[row b7 25 (dc (List.replicate 32 0))]::R) _ _ _ _ _ _ _ hps hdl hnl hA38).mono ?_
     rintro e' w39 ⟨vt,Z,rfl,hZ,hA40⟩
     refine ⟨_,rfl,fun a hF=>hK _ _ (fun h=>absurd h ae) ?_⟩
     replace hA40:Hp w0 (Z::[row b36 70 [.slice (some ⟨gl,0,none⟩) 32 32,.slice (some ⟨gr,0,none⟩) 32 32]]::[row gl 25 (dc (p.lead width k h))]::[row gr 25 (dc (p.side width h))]::[row b28 25 (dc (p.side width h))]::XL::(txS ts)::[row b19 25 (dc (p.lead width k h))]::[row b4 25 (dc k)]::[row b7 25 (dc (List.replicate 32 0))]::R) w39:=hA40
     rw [show (4::((p.lead width k h)++(p.side width h)):List UInt8)=p.text width k (h+1) from (Prf.text_0 (p:=p) (width:=width) hkb).symm] at hZ
     refine bY hF O O O O ae _ (bJ O O) (fun h=>absurd h ae) (fun a hF=>?_)
     refine aB ?_
     refine hK16 _ _ ?_
     apply wp_seq_k; intro K17 hK17
     have hFn:=hF
     obtain ⟨_,A1,c1,rfl,hc1,hR1⟩:=hZ.rd (w0:=w0) (R:=[Z]) (TF ..)
     have hF:=hFn
     clear hFn
     refine wp_region_lit ?_
     refine vR hF<|vX O<|vX O fun a hF=>?_
     refine au O (fun K hK=>nK (u1:= .slice A1 (p.text width k (h+1)).length c1) hF O ae rfl hA40 O (tH _ _ _) (fun b41 w42 a hb41 hF hA43=>hK _ _ ?_))
     refine au O (fun K hK=>dI hF O ae rfl hA43 6 O hTS.lst TL rD rfl rfl (Rc.srcC (W:=[.slice A1 (p.text width k (h+1)).length c1]) (m:=1) (size:=1) (R:=[row b41 70 [.slice A1 ((p.text width k (h+1)).length) c1]]::Z::[row b36 70 [.slice (some ⟨gl,0,none⟩) 32 32,.slice (some ⟨gr,0,none⟩) 32 32]]::[row gl 25 (dc (p.lead width k h))]::[row gr 25 (dc (p.side width h))]::[row b28 25 (dc (p.side width h))]::XL::(txS ts)::[row b19 25 (dc (p.lead width k h))]::[row b4 25 (dc k)]::[row b7 25 (dc (List.replicate 32 0))]::R) (Rc.ofRow (i:=0) (off:=0) rfl rfl) hA43.q TL ae rfl (by simp [Value.oneCell'])) ag ae (fun tv2 XL2 w44 a hL2 hF hA45=>hK _ _ ?_))
     replace hA45:Hp w0 ([row b41 70 [.slice A1 ((p.text width k (h+1)).length) c1]]::Z::[row b36 70 [.slice (some ⟨gl,0,none⟩) 32 32,.slice (some ⟨gr,0,none⟩) 32 32]]::[row gl 25 (dc (p.lead width k h))]::[row gr 25 (dc (p.side width h))]::[row b28 25 (dc (p.side width h))]::XL2::(txS ts)::[row b19 25 (dc (p.lead width k h))]::[row b4 25 (dc k)]::[row b7 25 (dc (List.replicate 32 0))]::R) w44:=hA45
     refine vR hF<|vX O<|vE hK17 fun a hF=>?_
     refine wp_region_lit ?_
     refine vR hF<|vX O fun a hF=>?_
     refine au O (fun K hK=>ax hF O ae AY rfl rfl ?_)
     with_reducible refine (Eo w0 _ ([row b41 70 [.slice A1 ((p.text width k (h+1)).length) c1]]::Z::[row b36 70 [.slice (some ⟨gl,0,none⟩) 32 32,.slice (some ⟨gr,0,none⟩) 32 32]]::[row gl 25 (dc (p.lead width k h))]::[row gr 25 (dc (p.side width h))]::[row b28 25 (dc (p.side width h))]::XL2::(txS ts)::[row b19 25 (dc (p.lead width k h))]::[row b4 25 (dc k)]::[row b7 25 (dc (List.replicate 32 0))]::R) [Z] (dZ (TI _ ((TF ..)))) A1 (p.text width k (h+1)) c1 _ O hR1 hc1 ag hT hA45).mono ?_
     rintro e' w46 ⟨rfl,hA47⟩
     refine ⟨_,rfl,fun a hF=>hK _ _ ?_⟩
     replace hA47:Hp w0 ([row b41 70 [.slice A1 ((p.text width k (h+1)).length) c1]]::Z::[row b36 70 [.slice (some ⟨gl,0,none⟩) 32 32,.slice (some ⟨gr,0,none⟩) 32 32]]::[row gl 25 (dc (p.lead width k h))]::[row gr 25 (dc (p.side width h))]::[row b28 25 (dc (p.side width h))]::XL2::(txS ts)::[row b19 25 (dc (p.lead width k h))]::[row b4 25 (dc k)]::[row b7 25 (dc (List.replicate 32 0))]::R) w46:=hA47
     refine vR hF<|vX O fun a hF=>?_
     refine au O (fun K hK=>ax hF O ae PX rfl rfl ?_)
     with_reducible refine (wG w0 _ ([row b41 70 [.slice A1 ((p.text width k (h+1)).length) c1]]::Z::[row b36 70 [.slice (some ⟨gl,0,none⟩) 32 32,.slice (some ⟨gr,0,none⟩) 32 32]]::[row gl 25 (dc (p.lead width k h))]::[row gr 25 (dc (p.side width h))]::[row b28 25 (dc (p.side width h))]::XL2::(txS ts)::[row b19 25 (dc (p.lead width k h))]::[row b4 25 (dc k)]::[row b7 25 (dc (List.replicate 32 0))]::R) (sha (p.text width k (h+1))) width (dH _) hA47).mono ?_
     rintro e' w48 ⟨rfl,hA49⟩
     refine ⟨_,rfl,fun a hF=>hK _ _ ?_⟩
     replace hA49:Hp w0 ([row b41 70 [.slice A1 ((p.text width k (h+1)).length) c1]]::Z::[row b36 70 [.slice (some ⟨gl,0,none⟩) 32 32,.slice (some ⟨gr,0,none⟩) 32 32]]::[row gl 25 (dc (p.lead width k h))]::[row gr 25 (dc (p.side width h))]::[row b28 25 (dc (p.side width h))]::XL2::(txS ts)::[row b19 25 (dc (p.lead width k h))]::[row b4 25 (dc k)]::[row b7 25 (dc (List.replicate 32 0))]::R) w48:=hA49
     rw [← p.lead_eq width k (h+1)] at hF
     refine au O (fun K hK=>aI (new:=dc (p.lead width k (h+1))) hF O O hA49 O O 8 O (by rw [aj,aj,p.lead_length,p.lead_length]) (bz _) (by rw [aj,hdl]; exact uX) (fun w50 hA51=>hK _ _ ?_))
     replace hA51:Hp w0 ([row b41 70 [.slice A1 ((p.text width k (h+1)).length) c1]]::Z::[row b36 70 [.slice (some ⟨gl,0,none⟩) 32 32,.slice (some ⟨gr,0,none⟩) 32 32]]::[row gl 25 (dc (p.lead width k h))]::[row gr 25 (dc (p.side width h))]::[row b28 25 (dc (p.side width h))]::XL2::(txS ts)::[row b19 25 (dc (p.lead width k (h+1)))]::[row b4 25 (dc k)]::[row b7 25 (dc (List.replicate 32 0))]::R) w50:=hA51
     refine az<|hK11 _ _ ?_
     refine wp_region_lit ?_
     refine vR hF<|vV O (bH O O O (TB _ ag))<|vX O fun a hF=>?_
     refine az ?_
     have hTS2:=hTS.snoc hZ hL2
     rw [← p.texts_succ] at hTS2
     have hA52:Hp w0 (XL2::(txS ts)::Z::[row b19 25 (dc (p.lead width k (h+1)))]::[row b4 25 (dc k)]::[row b7 25 (dc (List.replicate 32 0))]::R) w50:=hpS 11 [6,7,1,8,9,10] [0,2,3,4,5] hA51 rfl
     have hA53:Hp w0 (XL2::(txS (ts++[⟨.slice A1 (p.text width k (h+1)).length c1,p.text width k (h+1),Z⟩]))::[row b19 25 (dc (p.lead width k (h+1)))]::[row b4 25 (dc k)]::[row b7 25 (dc (List.replicate 32 0))]::R) w50:=hA52.cast (by simp [txS])
     exact ⟨h+1,ag,_,tv2,XL2,ag,hTS2,hF.keep [52,13,1,6,9,14,50,51] rfl,hA53⟩
    ·have hk1:bK k (255-h)=1:=(oH k (255-h)).resolve_left hkb
     refine wp_region_lit ?_
     refine vR hF<|vV O (yZ (new:=dc k) rfl hAm.q O 6 O vw hdk)<|vX O<|vV O (dm O O O (show IntKind.i64.wrap (255-(h:Int))=((255-h:Nat):Int) by rw [TB _ ag]; omega)) fun a hF=>?_
     refine au O (fun K hK=>ax hF O ae GX rfl rfl ?_)
     with_reducible refine (wI w0 _ ([row gl 25 (dc (p.lead width k h))]::[row gr 25 (dc (p.side width h))]::[row b28 25 (dc (p.side width h))]::XL::(txS ts)::[row b19 25 (dc (p.lead width k h))]::[row b4 25 (dc k)]::[row b7 25 (dc (List.replicate 32 0))]::R) k (255-h) hk ag hAm).mono ?_
     rintro e' w54 ⟨rfl,hA55⟩
     refine ⟨_,rfl,fun a hF=>hK _ _ ?_⟩
     replace hA55:Hp w0 ([row gl 25 (dc (p.lead width k h))]::[row gr 25 (dc (p.side width h))]::[row b28 25 (dc (p.side width h))]::XL::(txS ts)::[row b19 25 (dc (p.lead width k h))]::[row b4 25 (dc k)]::[row b7 25 (dc (List.replicate 32 0))]::R) w54:=hA55
     refine vR hF<|vV O (aH O O O O (gJ ag))<|vE hK15<|vT1 O fun a hF=>?_
     refine ak 3 [2,3] [0,1,2,3] (fun x=>Hq w0 ([row b28 25 (dc (p.side width h))]::XL::(txS ts)::[row b19 25 (dc (p.lead width k h))]::[row b4 25 (dc k)]::[row b7 25 (dc (List.replicate 32 0))]::R) x) af af (Hq.drew (Hp.qp [[row gl 25 (dc (p.lead width k h))],[row gr 25 (dc (p.side width h))],[row b28 25 (dc (p.side width h))],XL,(txS ts),[row b19 25 (dc (p.lead width k h))],[row b4 25 (dc k)],[row b7 25 (dc (List.replicate 32 0))]] R [2,3,4,5,6,7] hA55)) ?_
     have hA56:=Hl.drew hA55
     refine pR hF<|pV O O (fun x hx=>yZ (new:=dc (p.side width h)) O hx O 0 O vw hdnl)<|pV O O (fun x hx=>yZ (new:=dc (p.lead width k h)) O hx O 3 O vw hddl) fun a hF=>?_
     refine bM O O O (fun K hK=>aI (new:=dc (p.side width h)) hF O O hA56 O O 0 O (by rw [aj,aj,hdl,hnl]) (bz _) (by rw [aj,hdl]; exact uX) (fun w57 hA58=>hK _ _ (fun _=>?_) ?_))
     ·exact Hp.qp [[row gl 25 (dc (p.side width h))],[row gr 25 (dc (p.side width h))],[row b28 25 (dc (p.side width h))],XL,(txS ts),[row b19 25 (dc (p.lead width k h))],[row b4 25 (dc k)],[row b7 25 (dc (List.replicate 32 0))]] R [2,3,4,5,6,7] hA58
     refine bM O O O (fun K hK=>aI (new:=dc (p.lead width k h)) hF O O hA58 O O 1 O (by rw [aj,aj,hdl,hnl]) (bz _) (by rw [aj,hnl]; exact uX) (fun w59 hA60=>hK _ _ (fun h=>absurd h ae) ?_))
     replace hA60:Hp w0 ([row gl 25 (dc (p.side width h))]::[row gr 25 (dc (p.lead width k h))]::[row b28 25 (dc (p.side width h))]::XL::(txS ts)::[row b19 25 (dc (p.lead width k h))]::[row b4 25 (dc k)]::[row b7 25 (dc (List.replicate 32 0))]::R) w59:=hA60
     refine aB ?_
     refine hK14 _ _ ?_
     apply wp_seq_k; intro K18 hK18
     refine ak 3 [2,3,4] [0,1,2,3,4] _ af af (Hq.drew hA60.q) ?_
     have hA61:=Hl.drew hA60
     refine pR hF<|pW O O (fun _=>dG O Tz D5 rfl (.none 0) (.none 32) (Tv _) (TG _) (kF _ _ _))<|pW O O (fun _=>dG O Tz D5 rfl (.none 0) (.none 32) (Tv _) (TG _) (kF _ _ _)) fun a hF=>?_
     refine bM O O O (fun K hK=>jY (qs := #[(0,.slice (some ⟨gl,0,none⟩) 32 32),(1,.slice (some ⟨gr,0,none⟩) 32 32)]) (cells := #[.slice (some ⟨gl,0,none⟩) 32 32,.slice (some ⟨gr,0,none⟩) 32 32]) hF O ae rfl hA61 O (Bo _ _ _ _ _ _) (fun b62 w63 a hb62 hF hA64=>hK _ _ (fun _=>?_) ?_))
     ·exact (qT hA64)
     have hps:PcS w0 ([row b62 70 [.slice (some ⟨gl,0,none⟩) 32 32,.slice (some ⟨gr,0,none⟩) 32 32]]::[row gl 25 (dc (p.side width h))]::[row gr 25 (dc (p.lead width k h))]::[row b28 25 (dc (p.side width h))]::XL::(txS ts)::[row b19 25 (dc (p.lead width k h))]::[row b4 25 (dc k)]::[row b7 25 (dc (List.replicate 32 0))]::R) (some ⟨b62,0,none⟩) [(some ⟨gl,0,none⟩,32,(p.side width h)),(some ⟨gr,0,none⟩,32,(p.lead width k h))]:=vH (by rw [hnl,hdl]; exact Rc.ofRow (i:=0) (off:=0) rfl rfl) (by rw [hnl]; decide) (by rw [hdl]; decide) (Rc.ofRow (i:=1) (off:=0) rfl (by rw [List.drop_zero]; exact List.take_length ..)) (Rc.ofRow (i:=2) (off:=0) rfl (by rw [List.drop_zero]; exact List.take_length ..))
     refine bM O O O (fun K hK=>ax hF O ae vM rfl rfl ?_)
     with_reducible refine (BH w0 _ ([row b62 70 [.slice (some ⟨gl,0,none⟩) 32 32,.slice (some ⟨gr,0,none⟩) 32 32]]::[row gl 25 (dc (p.side width h))]::[row gr 25 (dc (p.lead width k h))]::[row b28 25 (dc (p.side width h))]::XL::(txS ts)::[row b19 25 (dc (p.lead width k h))]::[row b4 25 (dc k)]::[row b7 25 (dc (List.replicate 32 0))]::R) _ _ _ _ _ _ _ hps hnl hdl hA64).mono ?_
     rintro e' w65 ⟨vt,Z,rfl,hZ,hA66⟩
     refine ⟨_,rfl,fun a hF=>hK _ _ (fun h=>absurd h ae) ?_⟩
     replace hA66:Hp w0 (Z::[row b62 70 [.slice (some ⟨gl,0,none⟩) 32 32,.slice (some ⟨gr,0,none⟩) 32 32]]::[row gl 25 (dc (p.side width h))]::[row gr 25 (dc (p.lead width k h))]::[row b28 25 (dc (p.side width h))]::XL::(txS ts)::[row b19 25 (dc (p.lead width k h))]::[row b4 25 (dc k)]::[row b7 25 (dc (List.replicate 32 0))]::R) w65:=hA66
     rw [show (4::((p.side width h)++(p.lead width k h)):List UInt8)=p.text width k (h+1) from (Prf.text_1 (p:=p) (width:=width) hkb).symm] at hZ
     refine bY hF O O O O ae _ (bJ O O) (fun h=>absurd h ae) (fun a hF=>?_)
     refine aB ?_
     refine hK18 _ _ ?_
     apply wp_seq_k; intro K19 hK19
     have hFn:=hF
     obtain ⟨_,A1,c1,rfl,hc1,hR1⟩:=hZ.rd (w0:=w0) (R:=[Z]) (TF ..)
     have hF:=hFn
     clear hFn
     refine wp_region_lit ?_
     refine vR hF<|vX O<|vX O fun a hF=>?_
     refine au O (fun K hK=>nK (u1:= .slice A1 (p.text width k (h+1)).length c1) hF O ae rfl hA66 O (tH _ _ _) (fun b67 w68 a hb67 hF hA69=>hK _ _ ?_))
     refine au O (fun K hK=>dI hF O ae rfl hA69 6 O hTS.lst TL rD rfl rfl (Rc.srcC (W:=[.slice A1 (p.text width k (h+1)).length c1]) (m:=1) (size:=1) (R:=[row b67 70 [.slice A1 ((p.text width k (h+1)).length) c1]]::Z::[row b62 70 [.slice (some ⟨gl,0,none⟩) 32 32,.slice (some ⟨gr,0,none⟩) 32 32]]::[row gl 25 (dc (p.side width h))]::[row gr 25 (dc (p.lead width k h))]::[row b28 25 (dc (p.side width h))]::XL::(txS ts)::[row b19 25 (dc (p.lead width k h))]::[row b4 25 (dc k)]::[row b7 25 (dc (List.replicate 32 0))]::R) (Rc.ofRow (i:=0) (off:=0) rfl rfl) hA69.q TL ae rfl (by simp [Value.oneCell'])) ag ae (fun tv2 XL2 w70 a hL2 hF hA71=>hK _ _ ?_))
     replace hA71:Hp w0 ([row b67 70 [.slice A1 ((p.text width k (h+1)).length) c1]]::Z::[row b62 70 [.slice (some ⟨gl,0,none⟩) 32 32,.slice (some ⟨gr,0,none⟩) 32 32]]::[row gl 25 (dc (p.side width h))]::[row gr 25 (dc (p.lead width k h))]::[row b28 25 (dc (p.side width h))]::XL2::(txS ts)::[row b19 25 (dc (p.lead width k h))]::[row b4 25 (dc k)]::[row b7 25 (dc (List.replicate 32 0))]::R) w70:=hA71
     refine vR hF<|vX O<|vE hK19 fun a hF=>?_
     refine wp_region_lit ?_
     refine vR hF<|vX O fun a hF=>?_
     refine au O (fun K hK=>ax hF O ae AY rfl rfl ?_)
     with_reducible refine (Eo w0 _ ([row b67 70 [.slice A1 ((p.text width k (h+1)).length) c1]]::Z::[row b62 70 [.slice (some ⟨gl,0,none⟩) 32 32,.slice (some ⟨gr,0,none⟩) 32 32]]::[row gl 25 (dc (p.side width h))]::[row gr 25 (dc (p.lead width k h))]::[row b28 25 (dc (p.side width h))]::XL2::(txS ts)::[row b19 25 (dc (p.lead width k h))]::[row b4 25 (dc k)]::[row b7 25 (dc (List.replicate 32 0))]::R) [Z] (dZ (TI _ ((TF ..)))) A1 (p.text width k (h+1)) c1 _ O hR1 hc1 ag hT hA71).mono ?_
     rintro e' w72 ⟨rfl,hA73⟩
     refine ⟨_,rfl,fun a hF=>hK _ _ ?_⟩
     replace hA73:Hp w0 ([row b67 70 [.slice A1 ((p.text width k (h+1)).length) c1]]::Z::[row b62 70 [.slice (some ⟨gl,0,none⟩) 32 32,.slice (some ⟨gr,0,none⟩) 32 32]]::[row gl 25 (dc (p.side width h))]::[row gr 25 (dc (p.lead width k h))]::[row b28 25 (dc (p.side width h))]::XL2::(txS ts)::[row b19 25 (dc (p.lead width k h))]::[row b4 25 (dc k)]::[row b7 25 (dc (List.replicate 32 0))]::R) w72:=hA73
     refine vR hF<|vX O fun a hF=>?_
     refine au O (fun K hK=>ax hF O ae PX rfl rfl ?_)
     with_reducible refine (wG w0 _ ([row b67 70 [.slice A1 ((p.text width k (h+1)).length) c1]]::Z::[row b62 70 [.slice (some ⟨gl,0,none⟩) 32 32,.slice (some ⟨gr,0,none⟩) 32 32]]::[row gl 25 (dc (p.side width h))]::[row gr 25 (dc (p.lead width k h))]::[row b28 25 (dc (p.side width h))]::XL2::(txS ts)::[row b19 25 (dc (p.lead width k h))]::[row b4 25 (dc k)]::[row b7 25 (dc (List.replicate 32 0))]::R) (sha (p.text width k (h+1))) width (dH _) hA73).mono ?_
     rintro e' w74 ⟨rfl,hA75⟩
     refine ⟨_,rfl,fun a hF=>hK _ _ ?_⟩
     replace hA75:Hp w0 ([row b67 70 [.slice A1 ((p.text width k (h+1)).length) c1]]::Z::[row b62 70 [.slice (some ⟨gl,0,none⟩) 32 32,.slice (some ⟨gr,0,none⟩) 32 32]]::[row gl 25 (dc (p.side width h))]::[row gr 25 (dc (p.lead width k h))]::[row b28 25 (dc (p.side width h))]::XL2::(txS ts)::[row b19 25 (dc (p.lead width k h))]::[row b4 25 (dc k)]::[row b7 25 (dc (List.replicate 32 0))]::R) w74:=hA75
     rw [← p.lead_eq width k (h+1)] at hF
     refine au O (fun K hK=>aI (new:=dc (p.lead width k (h+1))) hF O O hA75 O O 8 O (by rw [aj,aj,p.lead_length,p.lead_length]) (bz _) (by rw [aj,hdl]; exact uX) (fun w76 hA77=>hK _ _ ?_))
     replace hA77:Hp w0 ([row b67 70 [.slice A1 ((p.text width k (h+1)).length) c1]]::Z::[row b62 70 [.slice (some ⟨gl,0,none⟩) 32 32,.slice (some ⟨gr,0,none⟩) 32 32]]::[row gl 25 (dc (p.side width h))]::[row gr 25 (dc (p.lead width k h))]::[row b28 25 (dc (p.side width h))]::XL2::(txS ts)::[row b19 25 (dc (p.lead width k (h+1)))]::[row b4 25 (dc k)]::[row b7 25 (dc (List.replicate 32 0))]::R) w76:=hA77
     refine az<|hK11 _ _ ?_
     refine wp_region_lit ?_
     refine vR hF<|vV O (bH O O O (TB _ ag))<|vX O fun a hF=>?_
     refine az ?_
     have hTS2:=hTS.snoc hZ hL2
     rw [← p.texts_succ] at hTS2
     have hA78:Hp w0 (XL2::(txS ts)::Z::[row b19 25 (dc (p.lead width k (h+1)))]::[row b4 25 (dc k)]::[row b7 25 (dc (List.replicate 32 0))]::R) w76:=hpS 11 [6,7,1,8,9,10] [0,2,3,4,5] hA77 rfl
     have hA79:Hp w0 (XL2::(txS (ts++[⟨.slice A1 (p.text width k (h+1)).length c1,p.text width k (h+1),Z⟩]))::[row b19 25 (dc (p.lead width k (h+1)))]::[row b4 25 (dc k)]::[row b7 25 (dc (List.replicate 32 0))]::R) w76:=hA78.cast (by simp [txS])
     exact ⟨h+1,ag,_,tv2,XL2,ag,hTS2,hF.keep [52,13,1,6,9,14,50,51] rfl,hA79⟩
   refine lU 5 [2,3,4,5] (.op 0 (.op 1 (.fork 2 3 (.op 3 (.op 4 (.op 5 .done))) (.op 2 (.op 4 (.op 5 .done)))))) (fun x=>Hq w0 ([row b28 25 (dc (p.side width h))]::XL::(txS ts)::[row b19 25 (dc (p.lead width k h))]::[row b4 25 (dc k)]::[row b7 25 (dc (List.replicate 32 0))]::R) x) af af (Hq.drew (hA32.q)) ?_
   have hA80:=Hl.drew hA32
   refine lH hF O O O O ae _ (fun x hx=>yZ (new:=dc (p.lead width k h)) O hx O 3 O vw hddl) (fun a hF=>?_)
   refine lH hF O O O O ae _ (fun x hx=>yZ (new:=dc (p.side width h)) O hx O 0 O vw hdnl) (fun a hF=>?_)
   refine zK O O O O (fun K hK=>?_) (fun K hK=>?_)
   ·refine bG hF O ae rfl hA80 (jE) (fun b81 w82 a hb81 hF hA83=>hK _ _ ?_ ?_)
    ·exact (qT hA83)
    refine rf O O O (fun K hK=>bG hF O ae rfl hA83 (jE) (fun b84 w85 a hb84 hF hA86=>hK _ _ (fun _=>?_) ?_))
    ·exact Hp.qp [[row b84 25 (dc (List.replicate 32 0))],[row b81 25 (dc (List.replicate 32 0))],[row b28 25 (dc (p.side width h))],XL,(txS ts),[row b19 25 (dc (p.lead width k h))],[row b4 25 (dc k)],[row b7 25 (dc (List.replicate 32 0))]] R [2,3,4,5,6,7] hA86
    refine rf O O O (fun K hK=>aI (new:=dc (p.lead width k h)) hF O O hA86 O O 1 O (by rw [aj,hdl]; rfl) (bz _) (by exact uX) (fun w87 hA88=>hK _ _ (fun _=>?_) ?_))
    ·exact Hp.qp [[row b84 25 (dc (List.replicate 32 0))],[row b81 25 (dc (p.lead width k h))],[row b28 25 (dc (p.side width h))],XL,(txS ts),[row b19 25 (dc (p.lead width k h))],[row b4 25 (dc k)],[row b7 25 (dc (List.replicate 32 0))]] R [2,3,4,5,6,7] hA88
    replace hA88:Hp w0 ([row b84 25 (dc (List.replicate 32 0))]::[row b81 25 (dc (p.lead width k h))]::[row b28 25 (dc (p.side width h))]::XL::(txS ts)::[row b19 25 (dc (p.lead width k h))]::[row b4 25 (dc k)]::[row b7 25 (dc (List.replicate 32 0))]::R) w87:=hA88
    refine rf O O O (fun K hK=>aI (new:=dc (p.side width h)) hF O O hA88 O O 0 O (by rw [aj,hnl]; rfl) (bz _) (by exact uX) (fun w89 hA90=>hK _ _ (fun h=>absurd h ae) ?_))
    replace hA90:Hp w0 ([row b84 25 (dc (p.side width h))]::[row b81 25 (dc (p.lead width k h))]::[row b28 25 (dc (p.side width h))]::XL::(txS ts)::[row b19 25 (dc (p.lead width k h))]::[row b4 25 (dc k)]::[row b7 25 (dc (List.replicate 32 0))]::R) w89:=hA90
    refine tY ?_
    have hA91:Hp w0 ([row b81 25 (dc (p.lead width k h))]::[row b84 25 (dc (p.side width h))]::[row b28 25 (dc (p.side width h))]::XL::(txS ts)::[row b19 25 (dc (p.lead width k h))]::[row b4 25 (dc k)]::[row b7 25 (dc (List.replicate 32 0))]::R) w89:=hpO 8 [1,0,2,3,4,5,6,7] hA90 rfl
    exact hM _ _ b81 b84 (hF.keep [1,6,9,14,50,51,52,13,15,16,17,18] rfl) hA91
   ·refine bG hF O ae rfl hA80 (jE) (fun b92 w93 a hb92 hF hA94=>hK _ _ ?_ ?_)
    ·exact (qT hA94)
    refine rf O O O (fun K hK=>bG hF O ae rfl hA94 (jE) (fun b95 w96 a hb95 hF hA97=>hK _ _ (fun _=>?_) ?_))
    ·exact Hp.qp [[row b95 25 (dc (List.replicate 32 0))],[row b92 25 (dc (List.replicate 32 0))],[row b28 25 (dc (p.side width h))],XL,(txS ts),[row b19 25 (dc (p.lead width k h))],[row b4 25 (dc k)],[row b7 25 (dc (List.replicate 32 0))]] R [2,3,4,5,6,7] hA97
    refine rf O O O (fun K hK=>aI (new:=dc (p.lead width k h)) hF O O hA97 O O 0 O (by rw [aj,hdl]; rfl) (bz _) (by exact uX) (fun w98 hA99=>hK _ _ (fun _=>?_) ?_))
    ·exact Hp.qp [[row b95 25 (dc (p.lead width k h))],[row b92 25 (dc (List.replicate 32 0))],[row b28 25 (dc (p.side width h))],XL,(txS ts),[row b19 25 (dc (p.lead width k h))],[row b4 25 (dc k)],[row b7 25 (dc (List.replicate 32 0))]] R [2,3,4,5,6,7] hA99
    replace hA99:Hp w0 ([row b95 25 (dc (p.lead width k h))]::[row b92 25 (dc (List.replicate 32 0))]::[row b28 25 (dc (p.side width h))]::XL::(txS ts)::[row b19 25 (dc (p.lead width k h))]::[row b4 25 (dc k)]::[row b7 25 (dc (List.replicate 32 0))]::R) w98:=hA99
    refine rf O O O (fun K hK=>aI (new:=dc (p.side width h)) hF O O hA99 O O 1 O (by rw [aj,hnl]; rfl) (bz _) (by exact uX) (fun w100 hA101=>hK _ _ (fun h=>absurd h ae) ?_))
    replace hA101:Hp w0 ([row b95 25 (dc (p.lead width k h))]::[row b92 25 (dc (p.side width h))]::[row b28 25 (dc (p.side width h))]::XL::(txS ts)::[row b19 25 (dc (p.lead width k h))]::[row b4 25 (dc k)]::[row b7 25 (dc (List.replicate 32 0))]::R) w100:=hA101
    refine tY ?_
    exact hM _ _ b95 b92 (hF.keep [1,6,9,14,50,51,52,13,15,16,17,18] rfl) hA101
  ·refine aS hF O (dD ag) ?_
   obtain rfl:h=256:=by omega
   have hrl:(dc (p.lead width k 256)).length=32:=by rw [aj,p.lead_length]
   apply wp_exit
   refine hK7 _ _ ?_
   apply wp_seq_k; intro K20 hK20
   refine ak 3 [3] [0,1,2,3] _ af af (Hq.drew hA26.q) ?_
   have hA102:=Hl.drew hA26
   refine pR hF<|pX O O<|pV O O (fun x hx=>yZ (new:=dc (p.lead width k 256)) O hx O 2 O vw hrl)<|pX O O fun a hF=>?_
   refine bM O O O (fun K hK=>aI (new:=dc (p.lead width k 256)) hF O O hA102 O O 4 O (by rw [hrl]; rfl) (bz _) (by exact uX) (fun w103 hA104=>hK _ _ (fun h=>absurd h ae) ?_))
   replace hA104:Hp w0 (XL::(txS ts)::[row b19 25 (dc (p.lead width k 256))]::[row b4 25 (dc k)]::[row b7 25 (dc (p.lead width k 256))]::R) w103:=hA104
   refine aB ?_
   refine hK20 _ _ ?_
   apply wp_ret
   refine JI hF Tryz.results44 hA104.q O O 4 O (by rw [hrl]; exact vw) ?_
   have hA105:Hp w0 (XL::(txS ts)::R) w103:=hpS 5 [0,1] [2,3,4] hA104 rfl
   exact ⟨ts,tv,XL,rfl,hTS,hA105⟩
 by_cases hpr:p.pr=true
 ·have hct:0≤p.ct∧p.ct≤1099511627776:=by
   have h1:=hf
   unfold Prf.formed Prf.counted at h1
   rw [hpr] at h1
   simp only [Bool.and_eq_true,decide_eq_true_eq,if_true] at h1
   omega
  refine aZ hF O hpr ?_
  refine wp_seq_k fun K21 hK21=>wp_region_lit ?_
  refine au O (fun K hK=>bG hF O ae rfl hA11 (Jo) (fun b106 w107 a hb106 hF hA108=>hK _ _ ?_))
  refine az<|hK21 _ _ ?_
  apply wp_seq_k; intro K22 hK22
  refine wS hF fun K23 hK23=>vX O<|vE hK23<|wBk fun a hF=>?_
  have hA109:Hp w0 ([row b106 127 (dc (List.replicate 8 0))]::[row b1 30 (p.cells sv)]::[row b4 25 (dc k)]::[row b7 25 (dc (List.replicate 32 0))]::R) w107:=hpS 5 [0,4,3,2] [1] hA108 rfl
  have hA110:Hp w0 ([row b106 127 (dc ((be 8 (c64 p.ct)).take 0++List.replicate (8-0) 0))]::[row b1 30 (p.cells sv)]::[row b4 25 (dc k)]::[row b7 25 (dc (List.replicate 32 0))]::R) w107:=hA109
  refine bQ (G:=Nat) (fun i a x=>i≤8∧Fr 81 [(23,.int .i64 (i:Int)),(1,.int .i64 width),(4,.pointer (some ⟨b1,0,none⟩)),(6,.pointer (some ⟨b4,0,none⟩)),(9,.pointer (some ⟨b7,0,none⟩)),(11,.pointer (some ⟨b106,0,none⟩)),(3,.slice AB 256 cB)] a∧Hp w0 ([row b106 127 (dc ((be 8 (c64 p.ct)).take i++List.replicate (8-i) 0))]::[row b1 30 (p.cells sv)]::[row b4 25 (dc k)]::[row b7 25 (dc (List.replicate 32 0))]::R) x) (fun i=>8-i) 0 (⟨Tv _,hF.keep [23,1,4,6,9,11,3] rfl,hA110⟩) ?_
  clear hF
  rintro i a w112 ⟨hi,hF,hA111⟩
  refine wS hF fun K24 hK24=>vV O (aH O O O O O)<|vE hK24<|wQ fun K25 hK25 a hF=>?_
  by_cases hlt:i<8
  ·refine aZ hF O (dB ag) ?_
   have hbl:(dc ((be 8 (c64 p.ct)).take i++List.replicate (8-i) 0)).length=8:=by rw [aj,List.length_append,List.length_take,fH,List.length_replicate]; omega
   apply wp_skip
   refine hK25 _ _ ?_
   apply wp_seq_k; intro K26 hK26
   apply wp_block
   refine wS hF fun K27 hK27=>vX O<|vX O<|vE hK27 fun a hF=>?_
   refine wp_region_lit ?_
   refine vR hF<|vX O<|vV O (yf 1 O TW O Bz O)<|vV O (yf 1 O Uf O QY O)<|vV O (aX O hA111.q O 1 O O Bq)<|vX O<|vV O (dm O O O (TB _ ag))<|vV O (uw O O O (TB _ ag))<|vV O (mP O O O ag rfl)<|vV O (fP O TP TA O (Q4 hct i hlt))<|vV O (aP O Tryz.underlying127 D5 rfl rfl i rfl hlt (ad1 _ _) (rfl:(none:Option Nat)=none)) fun a hF=>?_
   refine au O (fun K hK=>aW hF O O hA111 O O 0 O (by rw [hbl]; exact hlt) rfl D5 (fun w113 hA114=>hK _ _ ?_))
   replace hA114:Hp w0 ([row b106 127 ((dc ((be 8 (c64 p.ct)).take i++List.replicate (8-i) 0)).set i (.int .u8 ((UInt8.ofNat (c64 p.ct/256 ^ (7-i))).toNat:Int)))]::[row b1 30 (p.cells sv)]::[row b4 25 (dc k)]::[row b7 25 (dc (List.replicate 32 0))]::R) w113:=hA114
   have hA115:Hp w0 ([row b106 127 (dc ((be 8 (c64 p.ct)).take (i+1)++List.replicate (8-(i+1)) 0))]::[row b1 30 (p.cells sv)]::[row b4 25 (dc k)]::[row b7 25 (dc (List.replicate 32 0))]::R) w113:=by rw [← Qp _ i hlt]; exact hA114
   refine az<|hK26 _ _ ?_
   refine wp_region_lit ?_
   refine vR hF<|vV O (bH O O O (TB _ ag))<|vX O fun a hF=>?_
   refine az ?_
   exact ⟨i+1,ag,ag,hF.keep [23,1,4,6,9,11,3] rfl,hA115⟩
  ·refine aS hF O (dD ag) ?_
   obtain rfl:i=8:=by omega
   have hbe:(be 8 (c64 p.ct)).take 8++List.replicate (8-8) 0=be 8 (c64 p.ct):=by rw [ug]; simp
   have hA116:Hp w0 ([row b106 127 (dc (be 8 (c64 p.ct)))]::[row b1 30 (p.cells sv)]::[row b4 25 (dc k)]::[row b7 25 (dc (List.replicate 32 0))]::R) w112:=by rw [← hbe]; exact hA111
   apply wp_exit
   refine hK22 _ _ ?_
   refine ak 6 [5,6,7] [0,1,2,3,4,5,6,7] _ af af (Hq.drew hA116.q) ?_
   have hA117:=Hl.drew hA116
   refine pR hF<|pW O O (fun _=>dG O Tz D5 rfl (.none 0) (.none 32) (Tv _) (TG _) (kF _ _ _))<|pW O O (fun _=>dG O Tryz.underlying127 D5 rfl (.none 0) (.none 8) (Tv _) (TG _) (kF _ _ _))<|pW O O (fun _=>yf 1 O TW O Bz O)<|pW O O (fun _=>yf 2 O Uf O uX O)<|pW O O (fun _=>dG O Tz D5 rfl (.none 0) (.none 32) (Tv _) (TG _) (kF _ _ _)) fun a hF=>?_
   refine bM O O O (fun K hK=>jY (qs := #[(0,.slice (some ⟨b4,0,none⟩) 32 32),(1,.slice (some ⟨b106,0,none⟩) 8 8),(2,.slice (some ⟨b1,2,none⟩) 32 32)]) (cells := #[.slice (some ⟨b4,0,none⟩) 32 32,.slice (some ⟨b106,0,none⟩) 8 8,.slice (some ⟨b1,2,none⟩) 32 32]) hF O ae rfl hA117 O (Bl _ _ _ _ _ _ _ _ _) (fun b118 w119 a hb118 hF hA120=>hK _ _ (fun _=>?_) ?_))
   ·exact (qT hA120)
   have hps:PcS w0 ([row b118 70 [.slice (some ⟨b4,0,none⟩) 32 32,.slice (some ⟨b106,0,none⟩) 8 8,.slice (some ⟨b1,2,none⟩) 32 32]]::[row b106 127 (dc (be 8 (c64 p.ct)))]::[row b1 30 (p.cells sv)]::[row b4 25 (dc k)]::[row b7 25 (dc (List.replicate 32 0))]::R) (some ⟨b118,0,none⟩) [(some ⟨b4,0,none⟩,32,k),(some ⟨b106,0,none⟩,8,be 8 (c64 p.ct)),(some ⟨b1,2,none⟩,32,p.ch)]:=zf (by rw [hk,fH,hp.ch]; exact Rc.ofRow (i:=0) (off:=0) rfl rfl) (by rw [hk]; decide) (by rw [fH]; decide) (by rw [hp.ch]; decide) (Rc.ofRow (i:=3) (off:=0) rfl (by rw [List.drop_zero]; exact List.take_length ..)) (Rc.ofRow (i:=1) (off:=0) rfl (by rw [List.drop_zero]; exact List.take_length ..)) (Rc.ofRow (i:=2) (off:=2) rfl (by rw [aj,hp.ch]; exact Prf.c_chain hp))
   refine bM O O O (fun K hK=>ax hF O ae vM rfl rfl ?_)
   with_reducible refine (JZ w0 _ ([row b118 70 [.slice (some ⟨b4,0,none⟩) 32 32,.slice (some ⟨b106,0,none⟩) 8 8,.slice (some ⟨b1,2,none⟩) 32 32]]::[row b106 127 (dc (be 8 (c64 p.ct)))]::[row b1 30 (p.cells sv)]::[row b4 25 (dc k)]::[row b7 25 (dc (List.replicate 32 0))]::R) _ _ _ _ _ _ _ _ _ _ hps hk (fH _ _) hp.ch hA120).mono ?_
   rintro e' w121 ⟨v1,Z1,rfl,hZ1,hA122⟩
   refine ⟨_,rfl,fun a hF=>hK _ _ (fun h=>absurd h ae) ?_⟩
   replace hA122:Hp w0 (Z1::[row b118 70 [.slice (some ⟨b4,0,none⟩) 32 32,.slice (some ⟨b106,0,none⟩) 8 8,.slice (some ⟨b1,2,none⟩) 32 32]]::[row b106 127 (dc (be 8 (c64 p.ct)))]::[row b1 30 (p.cells sv)]::[row b4 25 (dc k)]::[row b7 25 (dc (List.replicate 32 0))]::R) w121:=hA122
   have ht0:p.text0 k=3::(k++be 8 (c64 p.ct)++p.ch):=by unfold Prf.text0; rw [hpr]; rfl
   rw [← ht0] at hZ1
   refine bY hF O O O O ae _ (bJ O O) (fun h=>absurd h ae) (fun a hF=>?_)
   refine aB ?_
   have hFn:=hF
   obtain ⟨_,A0,c0,rfl,hc0,hR0⟩:=hZ1.rd (w0:=w0) (R:=[Z1]) (TF ..)
   have hF:=hFn
   have hA123:Hp w0 (Z1::[row b4 25 (dc k)]::[row b7 25 (dc (List.replicate 32 0))]::R) w121:=hpS 6 [0,4,5] [1,2,3] hA122 rfl
   exact hJ _ _ A0 c0 Z1 (hF.keep [10,1,4,6,9,3] rfl) hZ1 hA123
 ·have hp0:p.pr=false:=by simpa using hpr
  have ht0:p.text0 k=[5]:=by unfold Prf.text0; rw [hp0]; rfl
  rw [← ht0] at hZ0
  refine aS hF O hp0 ?_
  apply wp_skip
  have hFn:=hF
  obtain ⟨_,A0,c0,rfl,hc0,hR0⟩:=hZ0.rd (w0:=w0) (R:=[Z]) (TF ..)
  have hF:=hFn
  have hA124:Hp w0 (Z::[row b4 25 (dc k)]::[row b7 25 (dc (List.replicate 32 0))]::R) w10:=hpS 4 [0,2,1] [3] hA11 rfl
  exact hJ _ _ A0 c0 Z (hF.keep [10,1,4,6,9,3] rfl) hZ0 hA124
end Go.Proofs.YtpomngkcfbnjoaaGreatDoor
