/- Texts that belong together, one behind the other. -/
import Derived.Test.YtpomngkcfbnjoaaGreatDoorSp3
import Derived.Test.YtpomngkcfbnjoaaGreatDoorHc
import Derived.Test.YtpomngkcfbnjoaaGreatDoorSpL
import Derived.Test.YtpomngkcfbnjoaaGreatDoorTabR
import Derived.Test.YtpomngkcfbnjoaaGreatDoorTt
section
set_option maxRecDepth 100000
set_option maxHeartbeats 2000000
namespace Go.Proofs.YtpomngkcfbnjoaaGreatDoor
open Go.RowKit Go.Dk
theorem Prf.check_err {p:Prf} {width:Int} {root k:List UInt8} (h:¬ p.err width=0):p.check width root k=p.err width:=by unfold Prf.check; rw [if_neg h]
theorem Prf.check_ok {p:Prf} {width:Int} {root k:List UInt8} (h:p.err width=0) (h2:p.lead width k 256=root):p.check width root k=0:=by unfold Prf.check; rw [if_pos h,if_pos h2]
theorem Prf.check_root {p:Prf} {width:Int} {root k:List UInt8} (h:p.err width=0) (h2:¬ p.lead width k 256=root):p.check width root k=171:=by unfold Prf.check; rw [if_pos h,if_neg h2]
theorem Prf.formed_of {p:Prf} {width:Int} (h:p.err width=0):p.formed=true:=by
 cases hf:p.formed with
 | true=>rfl
 | false=>unfold Prf.err at h; rw [hf] at h; cases h
theorem G7:aG Tryz.prog 43:=⟨_,Tryz.func43,af,af⟩
theorem G6:aG Tryz.prog 44:=⟨_,Tryz.func44,af,af⟩
theorem wH (w0 w:World) (R G:List Seg) (hG:G⊆R) (p:Prf) (sA:Option Addr) (sC:Nat) (width:Int) (root k:List UInt8) (hp:p.OK) (hr:root.length=32) (hk:k.length=32) (hT:Tab w0) (hS:Rc w0 G sA (fF p.ss)) (hA:Hp w0 R w):Calls Tryz.prog 25 #[.int .i64 width,.agg (dc root).toArray,.agg (dc k).toArray,.agg (p.cells (.slice sA p.ss.length sC)).toArray] w fun e w'=>e= .returned (.int .i64 ((p.check width root k:Nat):Int))∧Hp w0 R w':=by
 have hdk:(dc k).length=32:=by rw [aj,hk]
 have hdr:(dc root).length=32:=by rw [aj,hr]
 refine aJ Tryz.func25 O Tryz.ntmps25 ai (fun a hF=>?_)
 refine wp_seq_k fun K1 hK1=>wp_region_lit ?_
 refine au O (fun K hK=>bC (cs:=dc root) hF O ae rfl hA O (fun b1 w2 a hb1 hF hA3=>hK _ _ ?_))
 refine au O (fun K hK=>bC (cs:=dc k) hF O ae rfl hA3 O (fun b4 w5 a hb4 hF hA6=>hK _ _ ?_))
 refine au O (fun K hK=>bC (cs:=p.cells (.slice sA p.ss.length sC)) hF O ae rfl hA6 O (fun b7 w8 a hb7 hF hA9=>hK _ _ ?_))
 refine vR hF<|vX O<|vE hK1<|wT fun K2 hK2=>vV O (aT O hA9.q O 0 O OL (by rw [Prf.c_len hp]; decide) (Prf.c_all hp)) fun a hF=>?_
 refine vR hF<|vX O fun a hF=>?_
 refine au O (fun K hK=>ax hF O ae G7 rfl rfl ?_)
 with_reducible refine (F5 w0 _ ([row b7 30 (p.cells (.slice sA p.ss.length sC))]::[row b4 25 (dc k)]::[row b1 25 (dc root)]::R) G (List.Subset.trans hG (aA (aA (aA (bu))))) p sA sC width hp hT hS hA9).mono ?_
 rintro e' w10 ⟨rv,XR,rfl,hrow,hA11⟩
 refine ⟨_,rfl,fun a hF=>hK _ _ ?_⟩
 replace hA11:Hp w0 (XR::[row b7 30 (p.cells (.slice sA p.ss.length sC))]::[row b4 25 (dc k)]::[row b1 25 (dc root)]::R) w10:=hA11
 refine vR hF<|vX O<|vV O (cu (v:=rv) rfl rfl rfl)<|vV O (cu (v:= .int .i64 ((p.err width:Nat):Int)) O O O)<|vX O<|vX O<|vE hK2<|wQ fun K3 hK3=>wQ fun K4 hK4 a hF=>?_
 by_cases he:p.err width=0
 ·have hFn:=hF
  have hf:p.formed=true:=Prf.formed_of he
  obtain ⟨AB,cB,rfl,hcB,hB⟩:=hrow he
  obtain ⟨_,_,e1,_,hRc⟩:=hB.rc (w0:=w0) (R:=[XR]) (TF ..)
  injection e1 with e1 _ e3
  subst e1 e3
  have hF:=hFn
  have hdl:(dc (p.lead width k 256)).length=32:=by rw [aj,p.lead_length]
  refine wp_region_lit ?_
  refine vR hF<|vX O<|vV O (aH O O O O (jb ag))<|vE hK4<|vF1 O<|wKp hK3<|wQ fun K5 hK5=>wT fun K6 hK6=>vV O (aT O hA11.q O 1 O OL (by rw [Prf.c_len hp]; decide) (Prf.c_all hp)) fun a hF=>?_
  refine vR hF<|vX O<|vV O (yZ (new:=dc k) rfl hA11.q O 2 O vw hdk)<|vX O fun a hF=>?_
  refine au O (fun K hK=>ax hF O ae G6 rfl rfl ?_)
  with_reducible refine (F6 w0 _ (XR::[row b7 30 (p.cells (.slice sA p.ss.length sC))]::[row b4 25 (dc k)]::[row b1 25 (dc root)]::R) [XR] (dZ ((TF ..))) p (.slice sA p.ss.length sC) width k AB cB hp hf hk hT hRc hA11).mono ?_
  rintro e' w12 ⟨ts,tv,XL,rfl,hTS,hA13⟩
  refine ⟨_,rfl,fun a hF=>hK _ _ ?_⟩
  refine vR hF<|vX O<|vV O (cu (v:=tv) rfl rfl rfl)<|vV O (cu (v:= .agg (dc (p.lead width k 256)).toArray) rfl rfl rfl) fun a hF=>?_
  refine au O (fun K hK=>bG hF O ae rfl hA13 (jE) (fun b14 w15 a hb14 hF hA16=>hK _ _ ?_))
  refine vR hF<|vX O fun a hF=>?_
  refine au O (fun K hK=>aI (new:=dc (p.lead width k 256)) hF O O hA16 O O 0 O (by rw [hdl]; rfl) (bz _) uX (fun w17 hA18=>hK _ _ ?_))
  replace hA18:Hp w0 ([row b14 25 (dc (p.lead width k 256))]::XL::(txS ts)::XR::[row b7 30 (p.cells (.slice sA p.ss.length sC))]::[row b4 25 (dc k)]::[row b1 25 (dc root)]::R) w17:=hA18
  refine az<|hK6 _ _ ?_
  apply wp_seq_k; intro K7 hK7
  by_cases heq:p.lead width k 256=root
  ·refine wp_region_lit ?_
   refine vR hF<|vV O (yZ (new:=dc (p.lead width k 256)) O hA18.q O 0 O vw hdl)<|vV O (yZ (new:=dc root) rfl hA18.q O 6 O vw hdr)<|vV O (kS O Tz TA D5 af rfl rfl (p.lead_length ..) hr (show (!decide (p.lead width k 256=root))=false by simp [heq]))<|vE hK7 fun a hF=>?_
   refine dL hF O ?_
   apply wp_skip
   refine hK5 _ _ ?_
   refine wS hF fun K8 hK8=>vX O<|vE hK8 fun a hF=>?_
   apply wp_ret
   refine aO hF Tryz.results25 O ?_
   have hA19:Hp w0 (R) w17:=hpS 7 [] [0,1,2,3,4,5,6] hA18 rfl
   exact ⟨by rw [Prf.check_ok he heq]; rfl,hA19⟩
  ·refine wp_region_lit ?_
   refine vR hF<|vV O (yZ (new:=dc (p.lead width k 256)) O hA18.q O 0 O vw hdl)<|vV O (yZ (new:=dc root) rfl hA18.q O 6 O vw hdr)<|vV O (kS O Tz TA D5 af rfl rfl (p.lead_length ..) hr (show (!decide (p.lead width k 256=root))=true by simp [heq]))<|vE hK7 fun a hF=>?_
   refine eP hF O ?_
   refine wS hF fun K9 hK9=>vX O<|vE hK9 fun a hF=>?_
   apply wp_ret
   simp only [Exit.then]
   refine aO hF Tryz.results25 O ?_
   have hA20:Hp w0 (R) w17:=hpS 7 [] [0,1,2,3,4,5,6] hA18 rfl
   exact ⟨by rw [Prf.check_root he heq]; rfl,hA20⟩
 ·refine wp_region_lit ?_
  refine vR hF<|vX O<|vV O (aH O O O O (nS ag))<|vE hK4<|vT1 O<|wT fun K10 hK10=>vX O<|vX O<|vE hK10 fun a hF=>?_
  apply wp_ret
  simp only [Exit.then]
  refine aO hF Tryz.results25 O ?_
  have hA21:Hp w0 (R) w10:=hpS 4 [] [0,1,2,3] hA11 rfl
  exact ⟨by rw [Prf.check_err he],hA21⟩
theorem TxsS.none:TxsS [] [] (.slice Option.none 0 0) []:=⟨(fun _ h=>by cases h),rfl,Buf.nil _ _⟩
theorem J7 (w0 w:World) (R G:List Seg) (hG:G⊆R) (p:Prf) (sA:Option Addr) (sC:Nat) (width:Int) (k:List UInt8) (hp:p.OK) (hk:k.length=32) (hT:Tab w0) (hS:Rc w0 G sA (fF p.ss)) (hA:Hp w0 R w):Calls Tryz.prog 21 #[.int .i64 width,.agg (dc k).toArray,.agg (p.cells (.slice sA p.ss.length sC)).toArray] w fun e w'=>∃ ts tv XL,e= .returned (.tuple #[tv,.int .i64 ((p.err width:Nat):Int)])∧TxsS ts (if p.err width=0 then p.texts width k 257 else []) tv XL∧Hp w0 (XL::txS ts::R) w':=by
 have hdk:(dc k).length=32:=by rw [aj,hk]
 refine aJ Tryz.func21 O Tryz.ntmps21 ai (fun a hF=>?_)
 refine wp_seq_k fun K1 hK1=>wp_region_lit ?_
 refine au O (fun K hK=>bC (cs:=dc k) hF O ae rfl hA O (fun b1 w2 a hb1 hF hA3=>hK _ _ ?_))
 refine au O (fun K hK=>bC (cs:=p.cells (.slice sA p.ss.length sC)) hF O ae rfl hA3 O (fun b4 w5 a hb4 hF hA6=>hK _ _ ?_))
 refine vR hF<|vX O<|vX O<|vE hK1<|wT fun K2 hK2=>vV O (aT O hA6.q O 0 O OL (by rw [Prf.c_len hp]; decide) (Prf.c_all hp)) fun a hF=>?_
 refine vR hF<|vX O fun a hF=>?_
 refine au O (fun K hK=>ax hF O ae G7 rfl rfl ?_)
 with_reducible refine (F5 w0 _ ([row b4 30 (p.cells (.slice sA p.ss.length sC))]::[row b1 25 (dc k)]::R) G (List.Subset.trans hG (aA (aA (bu)))) p sA sC width hp hT hS hA6).mono ?_
 rintro e' w7 ⟨rv,XR,rfl,hrow,hA8⟩
 refine ⟨_,rfl,fun a hF=>hK _ _ ?_⟩
 replace hA8:Hp w0 (XR::[row b4 30 (p.cells (.slice sA p.ss.length sC))]::[row b1 25 (dc k)]::R) w7:=hA8
 refine vR hF<|vX O<|vV O (cu (v:=rv) rfl rfl rfl)<|vV O (cu (v:= .int .i64 ((p.err width:Nat):Int)) O O O)<|vX O<|vX O<|vE hK2<|wQ fun K3 hK3=>wQ fun K4 hK4 a hF=>?_
 by_cases he:p.err width=0
 ·have hFn:=hF
  have hf:p.formed=true:=Prf.formed_of he
  obtain ⟨AB,cB,rfl,hcB,hB⟩:=hrow he
  obtain ⟨_,_,e1,_,hRc⟩:=hB.rc (w0:=w0) (R:=[XR]) (TF ..)
  injection e1 with e1 _ e3
  subst e1 e3
  have hF:=hFn
  have hdl:(dc (p.lead width k 256)).length=32:=by rw [aj,p.lead_length]
  refine wp_region_lit ?_
  refine vR hF<|vX O<|vV O (aH O O O O (jb ag))<|vE hK4<|vF1 O<|wKp hK3<|wT fun K5 hK5=>vV O (aT O hA8.q O 1 O OL (by rw [Prf.c_len hp]; decide) (Prf.c_all hp)) fun a hF=>?_
  refine vR hF<|vX O<|vV O (yZ (new:=dc k) rfl hA8.q O 2 O vw hdk)<|vX O fun a hF=>?_
  refine au O (fun K hK=>ax hF O ae G6 rfl rfl ?_)
  with_reducible refine (F6 w0 _ (XR::[row b4 30 (p.cells (.slice sA p.ss.length sC))]::[row b1 25 (dc k)]::R) [XR] (dZ ((TF ..))) p (.slice sA p.ss.length sC) width k AB cB hp hf hk hT hRc hA8).mono ?_
  rintro e' w9 ⟨ts,tv,XL,rfl,hTS,hA10⟩
  refine ⟨_,rfl,fun a hF=>hK _ _ ?_⟩
  refine vR hF<|vX O<|vV O (cu (v:=tv) rfl rfl rfl)<|vV O (cu (v:= .agg (dc (p.lead width k 256)).toArray) rfl rfl rfl) fun a hF=>?_
  refine au O (fun K hK=>bG hF O ae rfl hA10 (jE) (fun b11 w12 a hb11 hF hA13=>hK _ _ ?_))
  refine vR hF<|vX O fun a hF=>?_
  refine au O (fun K hK=>aI (new:=dc (p.lead width k 256)) hF O O hA13 O O 0 O (by rw [hdl]; rfl) (bz _) uX (fun w14 hA15=>hK _ _ ?_))
  replace hA15:Hp w0 ([row b11 25 (dc (p.lead width k 256))]::XL::(txS ts)::XR::[row b4 30 (p.cells (.slice sA p.ss.length sC))]::[row b1 25 (dc k)]::R) w14:=hA15
  refine az<|hK5 _ _ ?_
  refine wS hF fun K6 hK6=>vX O<|vX O<|vX O<|vE hK6 fun a hF=>?_
  apply wp_ret
  refine jr hF Tryz.results21 O O ?_
  have hA16:Hp w0 (XL::(txS ts)::R) w14:=hpS 6 [1,2] [0,3,4,5] hA15 rfl
  exact ⟨ts,tv,XL,by rw [he]; rfl,by rw [if_pos he]; exact hTS,hA16⟩
 ·refine wp_region_lit ?_
  refine vR hF<|vX O<|vV O (aH O O O O (nS ag))<|vE hK4<|vT1 O<|wT fun K7 hK7=>vX O<|vX O<|vX O<|vE hK7 fun a hF=>?_
  apply wp_ret
  simp only [Exit.then]
  refine jr hF Tryz.results21 O O ?_
  have hA17:Hp w0 (R) w7:=hpS 3 [] [0,1,2] hA8 rfl
  exact ⟨[],_,[],rfl,by rw [if_neg he]; exact TxsS.none,Hp.nil (Hp.nil hA17)⟩
end Go.Proofs.YtpomngkcfbnjoaaGreatDoor
end
section
set_option maxRecDepth 100000
set_option maxHeartbeats 2000000
namespace Go.Proofs.YtpomngkcfbnjoaaGreatDoor
open Go.RowKit Go.Dk
def JK (w0:World) (R:List Seg) (t:TxX):Prop:=∃ A c,t.v= .slice A t.l.length c∧Rd w0 R A t.l
theorem Ol {w0:World} {R:List Seg} {ts:List TxX} (h:∀ t∈ts,t.Ok w0) (hR:txS ts∈R):∀ t∈ts,JK w0 R t:=fun t ht=>by
 obtain ⟨A,c,e,h1⟩:=h t ht
 refine ⟨A,c,e,h1.monoF (fun r hr=>?_)⟩
 rw [List.flatten_cons,List.flatten_nil,List.append_nil] at hr
 exact List.mem_flatten.2 ⟨_,hR,List.mem_flatten.2 ⟨_,List.mem_map_of_mem ht,hr⟩⟩
theorem TxsS.oks {w0:World} {ts:List TxX} {L:List (List UInt8)} {tv:Value} {XL:Seg} (h:TxsS ts L tv XL):∀ t∈ts,t.Ok w0:=fun t ht=>by
 obtain ⟨_,A,c,e,_,h1⟩:=(h.bufs t ht).rd (w0:=w0) (R:=[t.X]) (TF ..)
 exact ⟨A,c,e,h1⟩
theorem Oq:(Tryz.prog.info? 30).map (·.size)=some 67:=af
theorem Qb:aG Tryz.prog 35:=⟨_,Tryz.func35,af,af⟩
theorem Qa:aG Tryz.prog 16:=⟨_,Tryz.func16,af,af⟩
theorem NY:bV Tryz.prog 30 (.agg ([.bool false,.int .i64 0,.int .u8 0,.int .u8 0,.int .u8 0,.int .u8 0,.int .u8 0,.int .u8 0,.int .u8 0,.int .u8 0,.int .u8 0,.int .u8 0,.int .u8 0,.int .u8 0,.int .u8 0,.int .u8 0,.int .u8 0,.int .u8 0,.int .u8 0,.int .u8 0,.int .u8 0,.int .u8 0,.int .u8 0,.int .u8 0,.int .u8 0,.int .u8 0,.int .u8 0,.int .u8 0,.int .u8 0,.int .u8 0,.int .u8 0,.int .u8 0,.int .u8 0,.int .u8 0,.int .u8 0,.int .u8 0,.int .u8 0,.int .u8 0,.int .u8 0,.int .u8 0,.int .u8 0,.int .u8 0,.int .u8 0,.int .u8 0,.int .u8 0,.int .u8 0,.int .u8 0,.int .u8 0,.int .u8 0,.int .u8 0,.int .u8 0,.int .u8 0,.int .u8 0,.int .u8 0,.int .u8 0,.int .u8 0,.int .u8 0,.int .u8 0,.int .u8 0,.int .u8 0,.int .u8 0,.int .u8 0,.int .u8 0,.int .u8 0,.int .u8 0,.int .u8 0,.slice none 0 0]:List Value).toArray):=by unfold bV; kernel_rfl
theorem Q5 (w0 w:World) (R:List Seg) (A:Option Addr) (n c:Nat) (hn:n≤c) (hA:Hp w0 R w):Calls Tryz.prog 16 #[.slice A n c,.int .i64 300] w fun e w'=>e= .returned (.slice A (min n 300) c)∧Hp w0 R w':=by
 refine aJ Tryz.func16 O Tryz.ntmps16 ai (fun a hF=>?_)
 refine wS hF fun K1 hK1=>vX O<|vE hK1<|wQ fun K2 hK2=>wQ fun K3 hK3 a hF=>?_
 by_cases hgt:300<n
 ·refine wp_region_lit ?_
  refine vR hF<|vX O<|vV O (aY O Tu O O)<|vX O<|vV O (aH O O O O (mM ag))<|vE hK3<|vT1 O<|wT fun K4 hK4=>vX O<|vX O<|vV O (ed O Tu uX O (.none 0) (.some rfl (rfl:(300:Int)=((300:Nat):Int))) (Tv _) (show 300≤c by omega) dU) fun a hF=>?_
  refine vR hF<|vX O<|vE hK4 fun a hF=>?_
  apply wp_ret
  simp only [Exit.then]
  refine aO hF Tryz.results16 O ?_
  exact ⟨by rw [show min n 300=300 by omega],hA⟩
 ·refine wp_region_lit ?_
  refine vR hF<|vX O<|vV O (aY O Tu O O)<|vX O<|vV O (aH O O O O (nT ag))<|vE hK3<|vF1 O<|wKp hK2<|wT fun K5 hK5=>vX O<|vX O<|vE hK5 fun a hF=>?_
  apply wp_ret
  refine aO hF Tryz.results16 O ?_
  exact ⟨by rw [show min n 300=n by omega],hA⟩
theorem J4 (w0 w:World) (R:List Seg) (p:Prf) (sA:Option Addr) (n sC:Nat) (hp:p.OK) (hn:n≤sC) (hlen:p.ss.length=min n 300) (hA:Hp w0 R w):Calls Tryz.prog 5 #[.agg (p.cells (.slice sA n sC)).toArray] w fun e w'=>e= .returned (.agg (p.cells (.slice sA p.ss.length sC)).toArray)∧Hp w0 R w':=by
 refine aJ Tryz.func5 O Tryz.ntmps5 ai (fun a hF=>?_)
 refine wp_seq_k fun K1 hK1=>wp_region_lit ?_
 refine au O (fun K hK=>bC (cs:=p.cells (.slice sA n sC)) hF O ae rfl hA O (fun b1 w2 a hb1 hF hA3=>hK _ _ ?_))
 refine au O (fun K hK=>bG hF O ae rfl hA3 (NY) (fun b4 w5 a hb4 hF hA6=>hK _ _ ?_))
 refine az<|hK1 _ _ ?_
 refine wS hF fun K2 hK2=>vV O (yf 66 rfl TW O rC O)<|vV O (aX O hA6.q O 1 O (Prf.c_sums hp) rQ) fun a hF=>?_
 refine au O (fun K hK=>ax hF O ae Qa rfl rfl ?_)
 with_reducible refine (Q5 w0 _ ([row b4 30 [.bool false,.int .i64 0,.int .u8 0,.int .u8 0,.int .u8 0,.int .u8 0,.int .u8 0,.int .u8 0,.int .u8 0,.int .u8 0,.int .u8 0,.int .u8 0,.int .u8 0,.int .u8 0,.int .u8 0,.int .u8 0,.int .u8 0,.int .u8 0,.int .u8 0,.int .u8 0,.int .u8 0,.int .u8 0,.int .u8 0,.int .u8 0,.int .u8 0,.int .u8 0,.int .u8 0,.int .u8 0,.int .u8 0,.int .u8 0,.int .u8 0,.int .u8 0,.int .u8 0,.int .u8 0,.int .u8 0,.int .u8 0,.int .u8 0,.int .u8 0,.int .u8 0,.int .u8 0,.int .u8 0,.int .u8 0,.int .u8 0,.int .u8 0,.int .u8 0,.int .u8 0,.int .u8 0,.int .u8 0,.int .u8 0,.int .u8 0,.int .u8 0,.int .u8 0,.int .u8 0,.int .u8 0,.int .u8 0,.int .u8 0,.int .u8 0,.int .u8 0,.int .u8 0,.int .u8 0,.int .u8 0,.int .u8 0,.int .u8 0,.int .u8 0,.int .u8 0,.int .u8 0,.slice none 0 0]]::[row b1 30 (p.cells (.slice sA n sC))]::R) sA n sC hn hA6).mono ?_
 rintro e' w7 ⟨rfl,hA8⟩
 refine ⟨_,rfl,fun a hF=>hK _ _ ?_⟩
 refine vR hF<|vV O (yf 66 rfl TW O rC O) fun a hF=>?_
 refine au O (fun K hK=>aW hF O O hA8 O O 1 O (by rw [Prf.c_len hp]; decide) rfl rC (fun w9 hA10=>hK _ _ ?_))
 replace hA10:Hp w0 ([row b4 30 [.bool false,.int .i64 0,.int .u8 0,.int .u8 0,.int .u8 0,.int .u8 0,.int .u8 0,.int .u8 0,.int .u8 0,.int .u8 0,.int .u8 0,.int .u8 0,.int .u8 0,.int .u8 0,.int .u8 0,.int .u8 0,.int .u8 0,.int .u8 0,.int .u8 0,.int .u8 0,.int .u8 0,.int .u8 0,.int .u8 0,.int .u8 0,.int .u8 0,.int .u8 0,.int .u8 0,.int .u8 0,.int .u8 0,.int .u8 0,.int .u8 0,.int .u8 0,.int .u8 0,.int .u8 0,.int .u8 0,.int .u8 0,.int .u8 0,.int .u8 0,.int .u8 0,.int .u8 0,.int .u8 0,.int .u8 0,.int .u8 0,.int .u8 0,.int .u8 0,.int .u8 0,.int .u8 0,.int .u8 0,.int .u8 0,.int .u8 0,.int .u8 0,.int .u8 0,.int .u8 0,.int .u8 0,.int .u8 0,.int .u8 0,.int .u8 0,.int .u8 0,.int .u8 0,.int .u8 0,.int .u8 0,.int .u8 0,.int .u8 0,.int .u8 0,.int .u8 0,.int .u8 0,.slice none 0 0]]::[row b1 30 ((p.cells (.slice sA n sC)).set 66 (.slice sA (min n 300) sC))]::R) w9:=hA10
 have hA11:Hp w0 ([row b4 30 [.bool false,.int .i64 0,.int .u8 0,.int .u8 0,.int .u8 0,.int .u8 0,.int .u8 0,.int .u8 0,.int .u8 0,.int .u8 0,.int .u8 0,.int .u8 0,.int .u8 0,.int .u8 0,.int .u8 0,.int .u8 0,.int .u8 0,.int .u8 0,.int .u8 0,.int .u8 0,.int .u8 0,.int .u8 0,.int .u8 0,.int .u8 0,.int .u8 0,.int .u8 0,.int .u8 0,.int .u8 0,.int .u8 0,.int .u8 0,.int .u8 0,.int .u8 0,.int .u8 0,.int .u8 0,.int .u8 0,.int .u8 0,.int .u8 0,.int .u8 0,.int .u8 0,.int .u8 0,.int .u8 0,.int .u8 0,.int .u8 0,.int .u8 0,.int .u8 0,.int .u8 0,.int .u8 0,.int .u8 0,.int .u8 0,.int .u8 0,.int .u8 0,.int .u8 0,.int .u8 0,.int .u8 0,.int .u8 0,.int .u8 0,.int .u8 0,.int .u8 0,.int .u8 0,.int .u8 0,.int .u8 0,.int .u8 0,.int .u8 0,.int .u8 0,.int .u8 0,.int .u8 0,.slice none 0 0]]::[row b1 30 (p.cells (.slice sA p.ss.length sC))]::R) w9:=by rw [hlen,← Prf.c_set hp (sv:= .slice sA n sC)]; exact hA10
 refine az<|hK2 _ _ ?_
 refine wS hF fun K3 hK3=>vV O (aT O hA11.q O 1 O OL (by rw [Prf.c_len hp]; decide) (Prf.c_all hp)) fun a hF=>?_
 refine au O (fun K hK=>aI (new:=p.cells (.slice sA p.ss.length sC)) hF O O hA11 O O 0 O (by rw [Prf.c_len hp]; rfl) (Prf.c_one rfl) (by exact Oq) (fun w12 hA13=>hK _ _ ?_))
 replace hA13:Hp w0 ([row b4 30 (p.cells (.slice sA p.ss.length sC))]::[row b1 30 (p.cells (.slice sA p.ss.length sC))]::R) w12:=hA13
 refine az<|hK3 _ _ ?_
 apply wp_ret
 refine fD hF Tryz.results5 hA13.q O 0 O (by rw [Prf.c_len hp]; exact OL) ?_
 have hA14:Hp w0 (R) w12:=hpS 2 [] [0,1] hA13 rfl
 exact ⟨rfl,hA14⟩
theorem zN (w0 w:World) (R:List Seg) (pa pb:Option Addr) (ts us:List TxX) (ca cb:Nat) (hT:∀ t∈ts,JK w0 R t) (hU:∀ t∈us,JK w0 R t) (hX:Rc w0 R pa (ts.map (·.v))) (hY:Rc w0 R pb (us.map (·.v))) (he:ts.map (·.l)=us.map (·.l)) (hl:∀ t∈ts,t.l.length≤9223372036854775807) (hn:ts.length≤9223372036854775807) (hA:Hp w0 R w):Calls Tryz.prog 24 #[.slice pa ts.length ca,.slice pb us.length cb] w fun e w'=>e= .returned (.bool true)∧Hp w0 R w':=by
 have hlen:ts.length=us.length:=by have h1:=congrArg List.length he; rwa [List.length_map,List.length_map] at h1
 refine aJ Tryz.func24 O Tryz.ntmps24 ai (fun a hF=>?_)
 refine wS hF fun K1 hK1=>vX O<|vE hK1<|wQ fun K2 hK2=>wT fun K3 hK3=>vX O<|vV O (aY O TL O O)<|vX O<|vV O (aY O TL O O)<|vV O (aH O O O O (jb ag))<|vE hK3<|vF1 O<|wKp hK2<|wQ fun K4 hK4=>wT fun K5 hK5=>vX O<|vE hK5<|wBk fun a hF=>?_
 refine bQ (G:=Nat) (fun i a x=>i≤ts.length∧Fr 27 [(5,.int .i64 (i:Int)),(0,.slice pa ts.length ca),(1,.slice pb us.length cb)] a∧Hp w0 (R) x) (fun i=>ts.length-i) 0 (⟨Tv _,hF.keep [5,0,1] rfl,hA⟩) ?_
 clear hF
 rintro i a w2 ⟨hi,hF,hA1⟩
 apply wp_seq_k; intro K6 hK6
 refine wS hF fun K7 hK7=>vX O<|vX O<|vV O (aY O TL O O)<|vV O (aH O O O O O)<|vE hK7 fun a hF=>?_
 by_cases hlt:i<ts.length
 ·refine aZ hF O (dB ag) ?_
  obtain ⟨t,ht⟩:∃ t,ts[i]? = some t:=⟨_,List.getElem?_eq_getElem hlt⟩
  obtain ⟨u,hu⟩:∃ u,us[i]? = some u:=⟨_,List.getElem?_eq_getElem ag⟩
  obtain ⟨A1,c1,e1,h1⟩:=hT t (List.mem_of_getElem? ht)
  obtain ⟨A2,c2,e2,h2⟩:=hU u (List.mem_of_getElem? hu)
  have htu:t.l=u.l:=by
   have h3:(ts.map (·.l))[i]? = some t.l:=by rw [List.getElem?_map,ht]; rfl
   have h4:(us.map (·.l))[i]? = some u.l:=by rw [List.getElem?_map,hu]; rfl
   rw [he,h4] at h3
   exact (Option.some.inj h3).symm
  have htl:=hl t (List.mem_of_getElem? ht)
  obtain ⟨b1,q1,hpa,hc1⟩:=hX.ne (i:=i) (by rw [List.length_map]; exact hlt)
  obtain ⟨b2,q2,hpb,hc2⟩:=hY.ne (i:=i) (by rw [List.length_map]; omega)
  apply wp_skip
  refine hK6 _ _ ?_
  apply wp_seq_k; intro K8 hK8
  apply wp_block
  apply wp_seq_k; intro K9 hK9
  refine ak 9 [8,9] [0,1,2,3,4,5,6,7,8,9] _ af af (Hq.drew hA1.q) ?_
  have hA3:=Hl.drew hA1
  refine pR hF<|pX O O<|pX O O<|pW O O (fun _=>bi O TL uV (by exact congrArg (fun A=>some (Value.slice A ts.length ca)) hpa) rfl i rfl hlt (ad2 _ _ _)) fun a hF=>?_
  refine pR hF<|pV O O (fun x hx=>bD (u:= .slice A1 t.l.length c1) rfl hx O hc1 i (by rw [List.length_map]; omega) rfl (by rw [List.getElem?_map,ht,← e1]; rfl) SV) fun a hF=>?_
  refine pR hF<|pX O O<|pX O O<|pW O O (fun _=>bi O TL uV (by exact congrArg (fun A=>some (Value.slice A us.length cb)) hpb) rfl i rfl ag (ad2 _ _ _)) fun a hF=>?_
  refine pR hF<|pV O O (fun x hx=>bD (u:= .slice A2 u.l.length c2) rfl hx O hc2 i (by rw [List.length_map]; omega) rfl (by rw [List.getElem?_map,hu,← e2]; rfl) SV) fun a hF=>?_
  refine bM O O O (fun K hK=>ax hF O ae Qb rfl rfl ?_)
  with_reducible refine (qF w0 _ R A1 A2 t.l u.l c1 c2 h1 h2 hA3 htl).mono ?_
  rintro e' w4 ⟨rfl,hA5⟩
  refine ⟨_,rfl,fun a hF=>hK _ _ (fun _=>?_) ?_⟩
  ·exact hA5.q
  replace hA5:Hp w0 (R) w4:=hA5
  rw [decide_eq_true htu] at hF
  refine bY hF O O O O ae _ (eU O O O) (fun h=>absurd h ae) (fun a hF=>?_)
  refine aB ?_
  refine hK9 _ _ ?_
  refine dL hF O ?_
  apply wp_skip
  refine hK8 _ _ ?_
  refine wp_region_lit ?_
  refine vR hF<|vX O<|vV O (bH O O O (TB _ ag))<|vX O fun a hF=>?_
  refine az ?_
  exact ⟨i+1,ag,ag,hF.keep [5,0,1] rfl,hA5⟩
 ·refine aS hF O (dD ag) ?_
  apply wp_exit
  refine hK4 _ _ ?_
  refine wS hF fun K10 hK10=>vX O<|vE hK10 fun a hF=>?_
  apply wp_ret
  refine aO hF Tryz.results24 O ?_
  exact ⟨rfl,hA1⟩
end Go.Proofs.YtpomngkcfbnjoaaGreatDoor
end
namespace Go.Proofs.YtpomngkcfbnjoaaGreatDoor
open Go.RowKit Go.Dk
theorem PY:aG Tryz.prog 8:=⟨_,Tryz.func8,af,af⟩
set_option maxRecDepth 100000 in
set_option maxHeartbeats 2000000 in
theorem yA (w0 w:World) (R G G2:List Seg) (hG:G⊆R) (hG2:G2⊆R) (p q:Prf) (sA qA:Option Addr) (sC qC:Nat) (hp:p.OK) (hq:q.OK) (hS:Rc w0 G sA (fF p.ss)) (hS2:Rc w0 G2 qA (fF q.ss)) (hA:Hp w0 R w):Calls Tryz.prog 19 #[.agg (p.cells (.slice sA p.ss.length sC)).toArray,.agg (q.cells (.slice qA q.ss.length qC)).toArray] w fun e w'=>∃ b,e= .returned (.bool b)∧(p=q→b=true)∧Hp w0 R w':=by
 refine aJ Tryz.func19 O Tryz.ntmps19 ai (fun a hF=>?_)
 refine wp_seq_k fun K1 hK1=>wp_region_lit ?_
 refine au O (fun K hK=>bC (cs:=p.cells (.slice sA p.ss.length sC)) hF O ae rfl hA O (fun b1 w2 a hb1 hF hA3=>hK _ _ ?_))
 refine au O (fun K hK=>bC (cs:=q.cells (.slice qA q.ss.length qC)) hF O ae rfl hA3 O (fun b4 w5 a hb4 hF hA6=>hK _ _ ?_))
 refine vR hF<|vX O<|vE hK1<|wQ fun K2 hK2 a hF=>?_
 by_cases h1:p.pr=q.pr
 ·by_cases h2:p.ct=q.ct∧p.ch=q.ch
  ·by_cases h3:p.bs=q.bs
   ·refine wp_region_lit ?_
    refine vR hF<|vV O (yf 0 O TW O Om O)<|vV O (aX O hA6.q O 1 O O Ph)<|vV O (yf 0 O TW O Om O)<|vV O (aX O hA6.q O 0 O O Ph)<|vV O (qV O Ua O O (show (p.pr == q.pr)=true by rw [h1]; simp)) fun a hF=>?_
    refine vR hF<|vX O<|vG O (yf 1 O TW O Bz O)<|vG O (aT O hA6.q O 1 O BN (by rw [Prf.c_len hp]; decide) (Prf.c_ent hp)) fun a hF=>?_
    refine vR hF<|vG O (yf 1 O TW O Bz O)<|vG O (aT O hA6.q O 0 O BN (by rw [Prf.c_len hq]; decide) (Prf.c_ent hq)) fun a hF=>?_
    refine vR hF<|vG O (uS O af af af pI ae ae rfl rfl TP Tz TA D5 uX hp.ch hq.ch rfl rfl (show decide (p.ct=q.ct∧p.ch=q.ch)=true by simp [h2])) fun a hF=>?_
    refine vR hF<|vV O (bg O O O)<|vX O<|vG O (yf 34 rfl TW O BA O)<|vG O (aT O hA6.q O 1 O KN (by rw [Prf.c_len hp]; decide) (Prf.c_bits hp)) fun a hF=>?_
    refine vR hF<|vG O (yf 34 rfl TW O BA O)<|vG O (aT O hA6.q O 0 O KN (by rw [Prf.c_len hq]; decide) (Prf.c_bits hq)) fun a hF=>?_
    refine vR hF<|vG O (oM O Ub TA D5 af rfl rfl hp.bs hq.bs (show decide (p.bs=q.bs)=true by simp [h3])) fun a hF=>?_
    refine vR hF<|vV O (bg O O O)<|vX O<|vG O (yf 66 rfl TW O rC O)<|vG O (aX O hA6.q O 1 O (Prf.c_sums hp) rQ)<|vG O (yf 66 rfl TW O rC O)<|vG O (aX O hA6.q O 0 O (Prf.c_sums hq) rQ) fun a hF=>?_
    refine lm hF O O O O (fun K hK=>ax hF O ae PY rfl rfl ?_)
    with_reducible refine (jc w0 _ ([row b4 30 (q.cells (.slice qA q.ss.length qC))]::[row b1 30 (p.cells (.slice sA p.ss.length sC))]::R) sA qA p.ss q.ss sC qC (hS.mono (List.Subset.trans hG (aA (aA (bu))))) (hS2.mono (List.Subset.trans hG2 (aA (aA (bu))))) (fun x hx=>by rw [aj]; exact hp.ss x hx) (fun x hx=>by rw [aj]; exact hq.ss x hx) hA6 (by have:=hp.few; omega)).mono ?_
    rintro e' w7 ⟨rfl,hA8⟩
    refine ⟨_,rfl,fun a hF=>hK _ _ ?_⟩
    replace hA8:Hp w0 ([row b4 30 (q.cells (.slice qA q.ss.length qC))]::[row b1 30 (p.cells (.slice sA p.ss.length sC))]::R) w7:=hA8
    refine vR hF<|vV O (bg O O O)<|vX O<|vE hK2 fun a hF=>?_
    apply wp_ret
    refine aO hF Tryz.results19 O ?_
    have hA9:Hp w0 (R) w7:=hpS 2 [] [0,1] hA8 rfl
    exact ⟨_,rfl,(fun e=>by rw [e]; exact decide_eq_true rfl),hA9⟩
   ·refine wp_region_lit ?_
    refine vR hF<|vV O (yf 0 O TW O Om O)<|vV O (aX O hA6.q O 1 O O Ph)<|vV O (yf 0 O TW O Om O)<|vV O (aX O hA6.q O 0 O O Ph)<|vV O (qV O Ua O O (show (p.pr == q.pr)=true by rw [h1]; simp)) fun a hF=>?_
    refine vR hF<|vX O<|vG O (yf 1 O TW O Bz O)<|vG O (aT O hA6.q O 1 O BN (by rw [Prf.c_len hp]; decide) (Prf.c_ent hp)) fun a hF=>?_
    refine vR hF<|vG O (yf 1 O TW O Bz O)<|vG O (aT O hA6.q O 0 O BN (by rw [Prf.c_len hq]; decide) (Prf.c_ent hq)) fun a hF=>?_
    refine vR hF<|vG O (uS O af af af pI ae ae rfl rfl TP Tz TA D5 uX hp.ch hq.ch rfl rfl (show decide (p.ct=q.ct∧p.ch=q.ch)=true by simp [h2])) fun a hF=>?_
    refine vR hF<|vV O (bg O O O)<|vX O<|vG O (yf 34 rfl TW O BA O)<|vG O (aT O hA6.q O 1 O KN (by rw [Prf.c_len hp]; decide) (Prf.c_bits hp)) fun a hF=>?_
    refine vR hF<|vG O (yf 34 rfl TW O BA O)<|vG O (aT O hA6.q O 0 O KN (by rw [Prf.c_len hq]; decide) (Prf.c_bits hq)) fun a hF=>?_
    refine vR hF<|vG O (oM O Ub TA D5 af rfl rfl hp.bs hq.bs (show decide (p.bs=q.bs)=false by simp [h3])) fun a hF=>?_
    refine vR hF<|vV O (bg O O O)<|vX O<|vS O<|vS O<|vS O<|vS O<|vS O<|vV O (bg O O O)<|vX O<|vE hK2 fun a hF=>?_
    apply wp_ret
    refine aO hF Tryz.results19 O ?_
    have hA10:Hp w0 (R) w5:=hpS 2 [] [0,1] hA6 rfl
    exact ⟨_,rfl,(fun e=>absurd (by rw [e]) h3),hA10⟩
  ·refine wp_region_lit ?_
   refine vR hF<|vV O (yf 0 O TW O Om O)<|vV O (aX O hA6.q O 1 O O Ph)<|vV O (yf 0 O TW O Om O)<|vV O (aX O hA6.q O 0 O O Ph)<|vV O (qV O Ua O O (show (p.pr == q.pr)=true by rw [h1]; simp)) fun a hF=>?_
   refine vR hF<|vX O<|vG O (yf 1 O TW O Bz O)<|vG O (aT O hA6.q O 1 O BN (by rw [Prf.c_len hp]; decide) (Prf.c_ent hp)) fun a hF=>?_
   refine vR hF<|vG O (yf 1 O TW O Bz O)<|vG O (aT O hA6.q O 0 O BN (by rw [Prf.c_len hq]; decide) (Prf.c_ent hq)) fun a hF=>?_
   refine vR hF<|vG O (uS O af af af pI ae ae rfl rfl TP Tz TA D5 uX hp.ch hq.ch rfl rfl (show decide (p.ct=q.ct∧p.ch=q.ch)=false by simp [h2])) fun a hF=>?_
   refine vR hF<|vV O (bg O O O)<|vX O<|vS O<|vS O<|vS O<|vS O<|vS O<|vV O (bg O O O)<|vX O<|vS O<|vS O<|vS O<|vS O<|vS O<|vV O (bg O O O)<|vX O<|vE hK2 fun a hF=>?_
   apply wp_ret
   refine aO hF Tryz.results19 O ?_
   have hA11:Hp w0 (R) w5:=hpS 2 [] [0,1] hA6 rfl
   exact ⟨_,rfl,(fun e=>absurd (by rw [e]; exact ⟨rfl,rfl⟩) h2),hA11⟩
 ·refine wp_region_lit ?_
  refine vR hF<|vV O (yf 0 O TW O Om O)<|vV O (aX O hA6.q O 1 O O Ph)<|vV O (yf 0 O TW O Om O)<|vV O (aX O hA6.q O 0 O O Ph)<|vV O (qV O Ua O O (show (p.pr == q.pr)=false by simp [h1])) fun a hF=>?_
  refine vR hF<|vX O<|vS O<|vS O<|vS O<|vS O<|vS O<|vV O (bg O O O)<|vX O<|vS O<|vS O<|vS O<|vS O<|vS O<|vV O (bg O O O)<|vX O<|vS O<|vS O<|vS O<|vS O<|vS O<|vV O (bg O O O)<|vX O<|vE hK2 fun a hF=>?_
  apply wp_ret
  refine aO hF Tryz.results19 O ?_
  have hA12:Hp w0 (R) w5:=hpS 2 [] [0,1] hA6 rfl
  exact ⟨_,rfl,(fun e=>absurd (by rw [e]) h1),hA12⟩
end Go.Proofs.YtpomngkcfbnjoaaGreatDoor
